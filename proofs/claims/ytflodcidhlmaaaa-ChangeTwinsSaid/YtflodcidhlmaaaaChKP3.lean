/-
  Part 3 of the texts that prove this claim, merged.
-/
import Derived.Lib.Bytealg
import Derived.Test.YtflodcidhlmaaaaChKP2
set_option linter.all false
namespace Cp
open Go Go.RowKit Go.Great
section
variable {P : Program} {E : Env} {I : Asn} {o : Oper}
theorem ok_idxbyte {f : FuncId} {fn : Func} {x y : Operand} {ts : Array TypeId} {a : List UInt8} {c : UInt8} (ho : o.op = .call { callee := .value (.func f), args := #[x, y], argTypes := ts }) (hf : P.funcs[f]? = some fn) (hname : (fn.name == "runtime.NumGoroutine") = false)
    (hb : fn.body.isNone = true) (hn : Extern.findNext fn = none) (hex : Extern.find fn = some Extern.BytealgIndexByte.indexByte) (hx : VL E x (str a)) (hy : VL E y (is (.int .u8 ((c.toNat : Nat) : Int)))) : OpOK P I o E (int (Lib.indexByte a c)) :=
  OpOK.same fun M w ac he _ => by
    have h1 : ac.eval x = _ := hx.ev he (by simp [ho, Op.operands, Call.operands])
    have h2 : ac.eval y = _ := hy.ev he (by simp [ho, Op.operands, Call.operands])
    have h3 : ac.eval (.func f) = .func (.func f) #[] #[] := rfl
    refine ⟨_, ?_, rfl⟩
    have hrun : (execOp ac.eval o).run P w = (callFunc f #[ac.eval x, ac.eval y]).run P w := by simp [execOp, ho, resolve, Deferred.ofValue, invoke, h3]
    rw [hrun, h1, h2, run_callFunc_extern hf hname hb hn hex, Lib.run_indexByteString]
    simp
section
variable {n : Nat} {M0 : Av} {w0 : World} {S : Nat → Prop}
/-- A literal whose elements are ours. -/
theorem ef_buildM {t e : TypeId} {sz d j : Nat} {zs : List Value} {xs : List Operand} {parts : Array (Nat × Operand)} {rows : List (List Pr)} (hg : o.guard = none) (hd : o.dst = some d) (hn : d < n) (ho : o.op = .buildSlice t xs.length parts) (hp : parts.toList = (xs.zipIdx 0).map fun x => (x.2, x.1))
    (ht : P.underlying t = some (.slice e)) (hz : sizeB P e = some sz) (hze : zeroB P e = some zs) (hzl : zs.length = sz) (hsz : 0 < sz) (hx : ValR E sz xs rows) (hsmall : xs.length * sz ≤ 16777216) (hpos0 : 0 < xs.length) : OpEf P M0 w0 S n j (SR.c noRes) ⟨d, mutRes e sz rows⟩ o E (lens rows.length) := by
  refine ⟨hg, fun M w a rs hszn he hI hj => ?_⟩
  have hops : ∀ x ∈ xs, x ∈ o.op.operands.toList := by
    intro x hx
    simp only [ho, Op.operands, List.mem_map]
    obtain ⟨i, hi, rfl⟩ := List.mem_iff_getElem.1 hx
    exact ⟨(i, xs[i]), by rw [hp]; exact List.mem_map.2 ⟨(xs[i], i), by rw [List.mem_zipIdx_iff_getElem?]; simp [hi], rfl⟩, rfl⟩
  obtain ⟨h1, h2, h3⟩ := hx.ev he hops
  unfold sizeB at hz
  unfold zeroB at hze
  cases hi : P.info? e with
  | none => rw [hi] at hz; cases hz
  | some i =>
    rw [hi] at hz hze
    simp only [Option.map_some, Option.some.injEq, Option.map_eq_some_iff] at hz hze
    obtain ⟨z, hzz, hze⟩ := hze
    have hzc : z.cells.size = sz := by rw [← hzl, ← hze]; simp
    have hparts : (parts.map fun (i, x) => (i, a.eval x)).toList = ((xs.map a.eval).zipIdx 0).map fun x => (x.2, x.1) := by
      rw [Array.toList_map, hp, List.map_map, List.zipIdx_map, List.map_map]
      rfl
    have hfill := fill_whole (s := i.size) (by rw [hz]; exact hsz) (xs.map a.eval) ((Array.range (xs.length * i.size)).map (z.cells[· % z.cells.size]!)) (fun v hv => by
      obtain ⟨x, hx, rfl⟩ := List.mem_map.1 hv
      rw [hz]; exact h2 x hx) (by simp)
    have hpos : ¬ xs.length * i.size = 0 := by rw [hz]; exact Nat.ne_of_gt (Nat.mul_pos (by omega) hsz)
    have hrun := run_buildSlice (P := P) w t e xs.length (parts.map fun (i, x) => (i, a.eval x)) _ i z ht hi hzz (by rw [hz]; omega) hpos (by rw [hparts]; exact hfill)
    have hrun2 : (execOp a.eval o).run P w = .ok (.value (.slice (some ⟨w.heap.size, 0, none⟩) xs.length xs.length)) (w.alloc (.cells ((xs.map a.eval).flatMap fun v => v.cells.toList).toArray e)) := by simp [execOp, ho, hrun]
    rw [hrun2]
    generalize hcs : (xs.map a.eval).flatMap (fun v => v.cells.toList) = cs at h3 ⊢
    have hb : Below w.heap.size w (w.alloc (.cells cs.toArray e)) := (Below.refl _ _).alloc (Nat.le_refl _) _
    have hlen : rows.length ≤ maxLen := by
      have : xs.length * 1 ≤ xs.length * sz := Nat.mul_le_mul_left _ hsz
      unfold maxLen; omega
    have h4 := Ext.below (M := M) hb
    have hext : Ext M w (fun b o => M b o ∨ b = w.heap.size) (w.alloc (.cells cs.toArray e)) := by
      refine ⟨h4.size, fun a v hc hm => ⟨fun hx => ?_, (h4.keep a v hc hm).2⟩, fun b o ho hp hm => ⟨fun hx => ?_, (h4.obj b o ho hp hm).2⟩⟩
      · rcases hx with hx | hx
        · exact hm hx
        · have := cell_lt hc; omega
      · rcases hx with hx | hx
        · exact hm hx
        · subst hx; simp at ho
    have hs1 : (w.alloc (.cells cs.toArray e)).heap.size = w.heap.size + 1 := by simp
    have hat : (SR.at_ (a.put o.dst (.slice (some ⟨w.heap.size, 0, none⟩) xs.length xs.length)) ⟨d, mutRes e sz rows⟩) = mutRes e sz rows (.slice (some ⟨w.heap.size, 0, none⟩) xs.length xs.length) := by unfold SR.at_ Slot.val; dsimp only; rw [hd, put_same (by rw [hszn]; exact hn)]
    refine ⟨fun b o => M b o ∨ b = w.heap.size, ⟨_, _, by rw [h1]⟩, hext, ?_⟩
    rw [hat]
    refine hI.replace hj hext hb.os hb.tape hb.output (fun k hk _ => hb.block k hk) rfl (fun b o hm _ => .inl hm) (fun b o hx => ?_) ?_ rfl (fun b hbk => ?_)
    · rcases hx with hx | hx
      · have := hI.bd _ _ hx; omega
      · omega
    · refine ⟨w.heap.size, rows.length, [], by rw [h1], Nat.le_refl _, hlen, by simp, fun o => .inr rfl, cs, heap_alloc_new w _, ?_, h3.2.1⟩
      simpa using (h3.st hext).hl hsz
    · have hbk' : some w.heap.size = some b := hbk
      injection hbk' with e1
      subst e1
      exact ⟨by rw [hs1]; omega, .inr (Nat.le_refl _)⟩
end
theorem one_any (p : Pr) [One p] : Pr.le p (cellsP [any]) := fun M w v h => by
  obtain ⟨h1, h2⟩ := one_cellsP p M w v h
  refine ⟨?_, h2⟩
  match v.cells.toList, h1 with
  | [_], _ => exact ⟨trivial, trivial⟩
theorem put_any {ps : List Pr} {off : Nat} (h : ps[off]? = some any) : ps.take off ++ [any] ++ ps.drop (off + 1) = ps := by
  have hl := lt_of_at h
  rw [List.getElem?_eq_getElem hl] at h
  simp only [Option.some.injEq] at h
  conv => rhs; rw [← List.take_append_drop off ps, List.drop_eq_getElem_cons hl, h]
  simp
end
/-- All numbers below n. -/
def allI (p : Nat → Bool) (n : Nat) : Bool := (List.range n).all p
theorem allI_iff {p : Nat → Bool} {n : Nat} : allI p n = true ↔ ∀ j, j < n → p j = true := by unfold allI; simp
theorem allI_end {p : Nat → Bool} {n : Nat} (h : ∀ j, j < n → p j = true) : allI p n = true := allI_iff.2 h
theorem allI_hit {p : Nat → Bool} {n k : Nat} (hk : k < n) (h : p k = false) : allI p n = false := by
  rw [Bool.eq_false_iff]; intro h'; rw [allI_iff.1 h' k hk] at h; cases h
theorem allI_step {p : Nat → Bool} {k : Nat} (h : ∀ j, j < k → p j = true) (hk : p k = true) : ∀ j, j < k + 1 → p j = true := by
  intro j hj
  by_cases e : j = k
  · subst e; exact hk
  · exact h j (by omega)
end Cp
namespace Cp
open Go Go.RowKit Go.Great
section
variable {P : Program} {n : Nat} {I : Asn}
def TurnR (P : Program) (I' : Asn) (M : Av) (w : World) (p : Pr) : Result Next → Prop
  | .ok (.value v) w' => ∃ M', p.h M' w' v ∧ Ext M w M' w' ∧ I'.h M' w'
  | .ok .skip w' => ∃ M', p.h M' w' undef ∧ Ext M w M' w' ∧ I'.h M' w'
  | .ok (.enter f args) w' => Calls P f args w' fun e w'' => ∃ v M', e = .returned v ∧ p.h M' w'' v ∧ Ext M w M' w'' ∧ I'.h M' w''
  | _ => False
def OpTurn (P : Program) (n : Nat) (I I' : Asn) (o : Oper) (E : Env) (p : Pr) : Prop := o.guard = none ∧ ∀ M w (a : Act), a.tmps.size = n → EnvFor M w E o a → I.h M w → TurnR P I' M w p ((execOp a.eval o).run P w)
theorem step_turn {M : Av} {w : World} {o : Oper} {p : Pr} {a : Act} {K : Act → World → Prop} {Q : Exit → Act → World → Prop} {I' : Asn} (h : TurnR P I' M w p ((execOp a.eval o).run P w))
    (k : ∀ v w' M', p.h M' w' v → Ext M w M' w' → I'.h M' w' → K (a.put o.dst v) w') : o.wp P a w K Q := by
  unfold Oper.wp
  generalize (execOp a.eval o).run P w = r at h
  cases r with
  | halt x w' => exact h.elim
  | ok x w' =>
    cases x <;> first | exact h.elim | skip
    case value v => obtain ⟨M', h1, h2, h3⟩ := h; exact k _ _ _ h1 h2 h3
    case skip => obtain ⟨M', h1, h2, h3⟩ := h; exact k _ _ _ h1 h2 h3
    case enter f args =>
      refine h.mono ?_
      rintro e w'' ⟨v, M', rfl, h1, h2, h3⟩
      exact k _ _ _ h1 h2 h3
def ChOne (P : Program) (n : Nat) (I : Asn) (ops : Array Oper) : Nat → List Oper → Env → (Asn → Env → Prop) → Prop
  | _, [], _, _ => False
  | 0, o :: r, E, K => ∃ p I', OpTurn P n I I' o E p ∧ (∀ d, o.dst = some d → d < n) ∧ Ch P n I' ops r (upd o p E) (K I')
  | c + 1, o :: r, E, K => ∃ p, GOK P I ops o E p ∧ (∀ d, o.dst = some d → d < n) ∧ ChOne P n I ops c r (upd o p E) K
theorem ChOne.op {ops : Array Oper} {o : Oper} {r : List Oper} {E : Env} {K : Asn → Env → Prop} {d c : Nat} {p : Pr} (hg : o.guard = none) (hd : o.dst = some d) (hn : d < n) (h : OpOK P I o E p)
    (k : ChOne P n I ops c r ((d, p) :: E) K) : ChOne P n I ops (c + 1) (o :: r) E K :=
  ⟨p, by unfold GOK; rw [hg]; exact h, fun d' hd' => by rw [hd] at hd'; cases hd'; exact hn, by unfold upd; rw [hd]; exact k⟩
theorem ChOne.turn {ops : Array Oper} {o : Oper} {r : List Oper} {E : Env} {K : Asn → Env → Prop} {d : Nat} {p : Pr} (I' : Asn) (hd : o.dst = some d) (hn : d < n) (h : OpTurn P n I I' o E p)
    (k : Ch P n I' ops r ((d, p) :: E) (K I')) : ChOne P n I ops 0 (o :: r) E K :=
  ⟨p, I', h, fun d' hd' => by rw [hd] at hd'; cases hd'; exact hn, by unfold upd; rw [hd]; exact k⟩
def drawOne (l : List Oper) (c : Nat) : Bool :=
  let b := befs l
  drawOk l && decide (c < l.length) && (List.range l.length).all fun i => i == c || (decide (i < c) && (b.getD c 0).testBit i) || (decide (c < i) && (b.getD i 0).testBit c)
theorem drawOne_spec {l : List Oper} {c : Nat} (h : drawOne l c = true) : drawOk l = true ∧ c < l.length ∧ (∀ i, i < c → ((befs l).getD c 0).testBit i = true) ∧ ∀ i, c < i → i < l.length → ((befs l).getD i 0).testBit c = true := by
  unfold drawOne at h
  simp only [Bool.and_eq_true, decide_eq_true_eq] at h
  obtain ⟨⟨h1, h2⟩, h3⟩ := h
  rw [List.all_eq_true] at h3
  refine ⟨h1, h2, fun i hi => ?_, fun i hi hl => ?_⟩
  · have := h3 i (by simp; omega)
    simp at this
    rcases this with (h | h) | h
    · omega
    · exact h.2
    · omega
  · have := h3 i (by simp; omega)
    simp at this
    rcases this with (h | h) | h
    · omega
    · omega
    · exact h.2
theorem cur_stop : ∀ (L : List (Oper × Pr)) (m : Nat) (E : Env) (b : Nat), b ≤ m → cur (fun i => decide (i < b)) m L E = E := by
  intro L
  induction L with
  | nil => intros; rfl
  | cons x L ih => intro m E b hm; obtain ⟨o, p⟩ := x; unfold cur; rw [if_neg (by simp; omega)]; exact ih _ _ _ (by omega)
theorem cho_list {ops : Array Oper} {K : Asn → Env → Prop} : ∀ (c : Nat) (l : List Oper) (k : Nat) (E : Env), ChOne P n I ops c l E K → ∃ (L : List (Oper × Pr)) (I' : Asn), L.map (·.1) = l ∧
    (∀ j o p, L[j]? = some (o, p) → (j ≠ c → GOK P (if j < c then I else I') ops o (cur (fun i => decide (i < k + j)) k L E) p) ∧ (j = c → OpTurn P n I I' o (cur (fun i => decide (i < k + j)) k L E) p) ∧ ∀ d, o.dst = some d → d < n) ∧ K I' (cur (fun _ => true) k L E)
  | _, [], _, _, h => by unfold ChOne at h; exact h.elim
  | 0, o :: l, k, E, h => by
    obtain ⟨p, I', hg, hd, hr⟩ := h
    obtain ⟨L, h1, h2, h3⟩ := ch_list l (k + 1) _ hr
    refine ⟨(o, p) :: L, I', by simp [h1], fun j o' p' hj => ?_, by unfold cur; simpa using h3⟩
    cases j with
    | zero =>
      simp only [List.getElem?_cons_zero, Option.some.injEq, Prod.mk.injEq] at hj
      obtain ⟨rfl, rfl⟩ := hj
      have e0 : decide (k < k + 0) = false := by simp
      refine ⟨fun h => absurd rfl h, fun _ => ?_, hd⟩
      unfold cur
      simp only [e0, Bool.false_eq_true, ↓reduceIte]
      rw [cur_stop L (k + 1) E (k + 0) (by omega)]
      exact hg
    | succ j =>
      have := h2 j o' p' (by simpa using hj)
      have e1 : decide (k < k + 1 + j) = true := by simp; omega
      rw [show k + (j + 1) = k + 1 + j by omega]
      unfold cur
      simp only [e1, ↓reduceIte]
      exact ⟨fun _ => by rw [if_neg (by omega : ¬ j + 1 < 0)]; exact this.1, fun h => absurd h (by omega), this.2⟩
  | c + 1, o :: l, k, E, h => by
    obtain ⟨p, hg, hd, hr⟩ := h
    obtain ⟨L, I', h1, h2, h3⟩ := cho_list c l (k + 1) _ hr
    refine ⟨(o, p) :: L, I', by simp [h1], fun j o' p' hj => ?_, by unfold cur; simpa using h3⟩
    cases j with
    | zero =>
      simp only [List.getElem?_cons_zero, Option.some.injEq, Prod.mk.injEq] at hj
      obtain ⟨rfl, rfl⟩ := hj
      have e0 : decide (k < k + 0) = false := by simp
      refine ⟨fun _ => ?_, fun h => absurd h (by omega), hd⟩
      unfold cur
      rw [if_pos (by omega : 0 < c + 1)]
      simp only [e0, Bool.false_eq_true, ↓reduceIte]
      rw [cur_stop L (k + 1) E (k + 0) (by omega)]
      exact hg
    | succ j =>
      have := h2 j o' p' (by simpa using hj)
      have e1 : decide (k < k + 1 + j) = true := by simp; omega
      rw [show k + (j + 1) = k + 1 + j by omega]
      unfold cur
      simp only [e1, ↓reduceIte]
      refine ⟨fun hne => ?_, fun he => this.2.1 (by omega), this.2.2⟩
      have h4 := this.1 (by omega)
      by_cases hlt : j < c
      · rw [if_pos (by omega : j + 1 < c + 1)]; rwa [if_pos hlt] at h4
      · rw [if_neg (by omega : ¬ j + 1 < c + 1)]; rwa [if_neg hlt] at h4
structure DJ1 (n : Nat) (I I' : Asn) (c : Nat) (L : List (Oper × Pr)) (E : Env) (listed : Array Bool) (a : Act) (w : World) : Prop where
  size : listed.size = L.length
  down : ∀ (i k : Nat) o p, L[i]? = some (o, p) → listed.getD i false = true → edge o k = true → listed.getD k false = true
  st : ∃ M, a.tmps.size = n ∧ a.defers = [] ∧ EnvOK M w (cur (fun i => listed.getD i false) 0 L E) a ∧ (if listed.getD c false then I' else I).h M w
theorem Tr.regOne (hm : P.follows .mixedOrders = true) (c : Nat) {id : Nat} {l : List Oper} {E : Env} {Q : Exit → Act → World → Prop} (hB0 : drawOne l c = true)
    (h : ChOne P n I l.toArray c l E (fun I' E' => ∀ a w, St n E' I' a w → Q .normal a w)) : Tr P n E I (.region id l.toArray true) Q := by
  intro a w hs
  obtain ⟨L, I', h1, h2, h3⟩ := cho_list c l 0 E h
  obtain ⟨hB, hcl, hA, hBc⟩ := drawOne_spec hB0
  have hlen : L.length = l.length := by rw [← h1]; simp
  have hL : ∀ (i : Nat) o, l.toArray[i]? = some o → ∃ p, L[i]? = some (o, p) := by
    intro i o ho
    have : l[i]? = some o := by simpa using ho
    rw [← h1, List.getElem?_map] at this
    cases hx : L[i]? with
    | none => rw [hx] at this; simp at this
    | some x => rw [hx] at this; simp at this; exact ⟨x.2, by rw [← this]⟩
  have hL' : ∀ (i : Nat) o p, L[i]? = some (o, p) → l[i]? = some o := by
    intro i o p hi
    rw [← h1, List.getElem?_map, hi]; rfl
  -- what the check says
  have hB1 : ∀ (i : Nat) o, l[i]? = some o → (∀ e ∈ o.after, Region.binds .any e = true → e.on < i) ∧
      ∀ (k : Nat) q s, l[k]? = some q → k ≠ i → q.dst = some s → o.dst ≠ some s ∧ (s ∈ seen l.toArray o → (k < i ∧ edge o k = true) ∨ (i < k ∧ edge q i = true)) := by
    intro i o ho
    unfold drawOk at hB
    rw [List.all_eq_true] at hB
    have hb := hB (o, i) (by rw [List.mem_zipIdx_iff_getElem?]; exact ho)
    simp only [Bool.and_eq_true] at hb
    refine ⟨fun e he hbd => ?_, fun k q s hk hne hd => ?_⟩
    · have := Array.all_eq_true_iff_forall_mem.1 hb.1 e he
      rw [hbd] at this; simpa using this
    · have := List.all_eq_true.1 hb.2 (q, k) (by rw [List.mem_zipIdx_iff_getElem?]; exact hk)
      simp only [hd, Bool.or_eq_true, Bool.and_eq_true] at this
      rcases this with h | h
      · exact absurd (by simpa using h) hne
      · refine ⟨by simpa using h.1, fun hs => ?_⟩
        rcases h.2 with (h' | h') | h'
        · have hc : (seen l.toArray o).contains s = true := by simpa using hs
          rw [hc] at h'; cases h'
        · exact .inl ⟨by simpa using h'.1, h'.2⟩
        · exact .inr ⟨by simpa using h'.1, h'.2⟩
  refine wp_region_any hm ?_
  -- the induction
  have key : ∀ (fuel : Nat) (listed : Array Bool) (a : Act) (w : World), listed.toList.count false ≤ fuel → DJ1 n I I' c L E listed a w → wpAny P .any l.toArray Q fuel listed a w := by
    intro fuel
    -- all are listed where nothing is ready
    have fin : ∀ (listed : Array Bool) (a : Act) (w : World), DJ1 n I I' c L E listed a w → (∀ i, i < L.length → listed.getD i false = true) → Q .normal a w := by
      intro listed a w hJ hall
      obtain ⟨M, hn, hdf, he, hI⟩ := hJ.st
      rw [hall c (by rw [hlen]; exact hcl)] at hI
      refine h3 a w ⟨M, hn, hdf, ?_, hI⟩
      have : cur (fun i => listed.getD i false) 0 L E = cur (fun _ => true) 0 L E := by
        have : ∀ (L' : List (Oper × Pr)) (k : Nat) (E : Env), k + L'.length ≤ L.length → cur (fun i => listed.getD i false) k L' E = cur (fun _ => true) k L' E := by
          intro L'
          induction L' with
          | nil => intros; rfl
          | cons x L' ih =>
            intro k E hk
            obtain ⟨o, p⟩ := x
            simp only [List.length_cons] at hk
            unfold cur
            rw [hall k (by omega), ih _ _ (by omega)]
        exact this L 0 E (by omega)
      rwa [this] at he
    have ready_nil : ∀ (listed : Array Bool) (a : Act) (w : World), DJ1 n I I' c L E listed a w → Region.ready .any l.toArray listed = [] → ∀ i, i < L.length → listed.getD i false = true := by
      intro listed a w hJ hr i
      induction i using Nat.strongRecOn with
      | _ i ih =>
        intro hi
        cases hli : listed.getD i false with
        | true => rfl
        | false =>
          exfalso
          have hil : i < l.length := by omega
          have hmem : i ∈ Region.ready .any l.toArray listed := by
            refine mem_ready.2 ⟨?_, l[i], by simp [hil], fun e he hb => ?_⟩
            · have : i < listed.size := by rw [hJ.size]; exact hi
              rw [Array.getD_eq_getD_getElem?, Array.getElem?_eq_getElem this] at hli ⊢
              simpa using hli
            · have := (hB1 i l[i] (by simp [hil])).1 e he hb
              exact ih e.on this (by omega)
          rw [hr] at hmem
          cases hmem
    induction fuel with
    | zero =>
      intro listed a w hc hJ
      have hall : ∀ i, i < L.length → listed.getD i false = true := by
        intro i hi
        have hsz := hJ.size
        have h0 : false ∉ listed.toList := by
          have : listed.toList.count false = 0 := by omega
          exact List.count_eq_zero.1 this
        cases hli : listed.getD i false with
        | true => rfl
        | false =>
          exfalso
          have : i < listed.size := by omega
          rw [Array.getD_eq_getD_getElem?, Array.getElem?_eq_getElem this] at hli
          apply h0
          simp at hli
          rw [← hli]
          exact Array.getElem_mem_toList this
      refine ⟨?_, fin listed a w hJ hall⟩
      cases hr : Region.ready .any l.toArray listed with
      | nil => rfl
      | cons i r =>
        exfalso
        have hi : i ∈ Region.ready .any l.toArray listed := by rw [hr]; simp
        obtain ⟨hu, o, ho, _⟩ := mem_ready.1 hi
        obtain ⟨p, hp⟩ := hL i o ho
        have hil : i < L.length := by rcases Nat.lt_or_ge i L.length with h | h; exact h; rw [List.getElem?_eq_none h] at hp; cases hp
        have h5 := hall i hil
        have : i < listed.size := by rw [hJ.size]; exact hil
        rw [Array.getD_eq_getD_getElem?, Array.getElem?_eq_getElem this] at hu h5
        simp at hu h5
        rw [hu] at h5; cases h5
    | succ fuel ih =>
      intro listed a w hc hJ
      refine ⟨fun hr => fin listed a w hJ (ready_nil listed a w hJ hr), fun i hi => ?_⟩
      obtain ⟨hu, o, ho, hall⟩ := mem_ready.1 hi
      obtain ⟨p, hp⟩ := hL i o ho
      have ho' : l[i]? = some o := hL' i o p hp
      have hil : i < L.length := by rcases Nat.lt_or_ge i L.length with h | h; exact h; rw [List.getElem?_eq_none h] at hp; cases hp
      have his : i < listed.size := by rw [hJ.size]; exact hil
      have hu0 : listed.getD i false = false := by
        rw [Array.getD_eq_getD_getElem?, Array.getElem?_eq_getElem his] at hu ⊢; simpa using hu
      have hpre : ∀ k, edge o k = true → listed.getD k false = true := by
        intro k hk
        obtain ⟨e, he, hb, rfl⟩ := edge_spec.1 hk
        exact hall e he hb
      obtain ⟨hgp, hgt, hdn⟩ := h2 i o p hp
      rw [Nat.zero_add] at hgp hgt
      obtain ⟨M, hn, hdf, he, hI⟩ := hJ.st
      -- what is looked at reads as in the text's order
      have hsame : ∀ s, s ∈ seen l.toArray o → (cur (fun j => decide (j < i)) 0 L E).lookup s = (cur (fun j => listed.getD j false) 0 L E).lookup s := by
        intro s hs
        by_cases hw : ∃ k q r, L[k]? = some (q, r) ∧ k ≠ i ∧ q.dst = some s
        · obtain ⟨k, q, r, hk, hki, hd⟩ := hw
          have huniq : ∀ (j : Nat) o' p', L[j]? = some (o', p') → j ≠ k → o'.dst ≠ some s := by
            intro j o' p' hj hjk
            exact ((hB1 j o' (hL' j o' p' hj)).2 k q s (hL' k q r hk) (Ne.symm hjk) hd).1
          rcases ((hB1 i o ho').2 k q s (hL' k q r hk) hki hd).2 hs with ⟨h5, h6⟩ | ⟨h5, h6⟩
          · rw [cur_hit L 0 E k q r hk (by simpa using h5) hd huniq, cur_hit L 0 E k q r hk (by simpa using hpre k h6) hd huniq]
          · have hnk : listed.getD k false = false := by
              cases hlk : listed.getD k false with
              | false => rfl
              | true => have := hJ.down k i q r hk hlk h6; rw [hu0] at this; cases this
            rw [cur_miss L 0 E, cur_miss L 0 E]
            · intro j o' p' hj hsel hd'
              by_cases hjk : j = k
              · subst hjk; rw [Nat.zero_add, hnk] at hsel; cases hsel
              · exact huniq j o' p' hj hjk hd'
            · intro j o' p' hj hsel hd'
              by_cases hjk : j = k
              · subst hjk; simp at hsel; omega
              · exact huniq j o' p' hj hjk hd'
        · rw [cur_miss L 0 E, cur_miss L 0 E]
          · intro j o' p' hj hsel hd'
            by_cases hji : j = i
            · subst hji; rw [Nat.zero_add, hu0] at hsel; cases hsel
            · exact hw ⟨j, o', p', hj, hji, hd'⟩
          · intro j o' p' hj hsel hd'
            by_cases hji : j = i
            · subst hji; simp at hsel
            · exact hw ⟨j, o', p', hj, hji, hd'⟩
      have next : ∀ v w' M', p.h M' w' v → Ext M w M' w' → (if (listed.setIfInBounds i true).getD c false then I' else I).h M' w' → wpAny P .any l.toArray Q fuel (listed.setIfInBounds i true) (a.put o.dst v) w' := by
        intro v w' M' hpv hb hI2
        refine ih _ _ _ ?_ ⟨by simpa using hJ.size, ?_, M', by rw [put_size]; exact hn, by rw [put_defers]; exact hdf, ?_, hI2⟩
        · have h7 : listed.toList[i]? = some false := by
            rw [Array.getElem?_toList, Array.getElem?_eq_getElem his]
            rw [Array.getD_eq_getD_getElem?, Array.getElem?_eq_getElem his] at hu0
            simpa using hu0
          have h8 := count_set h7
          rw [Array.toList_setIfInBounds]
          omega
        · intro j k o' p' hj hlj hek
          have hset : ∀ m, (listed.setIfInBounds i true).getD m false = (if m = i then true else listed.getD m false) := by
            intro m
            rw [Array.getD_eq_getD_getElem?, Array.getElem?_setIfInBounds]
            by_cases hm : i = m
            · subst hm; simp [his]
            · rw [if_neg hm, if_neg (Ne.symm hm), Array.getD_eq_getD_getElem?]
          rw [hset] at hlj ⊢
          by_cases hki : k = i
          · simp [hki]
          · rw [if_neg hki]
            by_cases hji : j = i
            · subst hji
              rw [hp] at hj
              cases hj
              exact hpre k hek
            · rw [if_neg hji] at hlj
              exact hJ.down j k o' p' hj hlj hek
        · -- the environment
          intro s q hq
          have hset : ∀ m, (listed.setIfInBounds i true).getD m false = (if m = i then true else listed.getD m false) := by
            intro m
            rw [Array.getD_eq_getD_getElem?, Array.getElem?_setIfInBounds]
            by_cases hm : i = m
            · subst hm; simp [his]
            · rw [if_neg hm, if_neg (Ne.symm hm), Array.getD_eq_getD_getElem?]
          by_cases hds : o.dst = some s
          · rw [cur_hit L 0 E i o p hp (by rw [Nat.zero_add, hset]; simp) hds
              (fun j o' p' hj hji => ((hB1 j o' (hL' j o' p' hj)).2 i o s ho' (Ne.symm hji) hds).1)] at hq
            cases hq
            rw [hds, put_same (by rw [hn]; exact hdn s hds)]
            exact hpv
          · have hq2 : (cur (fun j => listed.getD j false) 0 L E).lookup s = some q := by
              rw [← hq]
              by_cases hw : ∃ k q r, L[k]? = some (q, r) ∧ q.dst = some s ∧ listed.getD k false = true
              · obtain ⟨k, q', r, hk, hd, hlk⟩ := hw
                have huniq : ∀ (j : Nat) o' p', L[j]? = some (o', p') → j ≠ k → o'.dst ≠ some s := by
                  intro j o' p' hj hjk
                  exact ((hB1 j o' (hL' j o' p' hj)).2 k q' s (hL' k q' r hk) (Ne.symm hjk) hd).1
                rw [cur_hit L 0 E k q' r hk (by simpa using hlk) hd huniq, cur_hit L 0 E k q' r hk (by rw [Nat.zero_add, hset]; split; rfl; exact hlk) hd huniq]
              · rw [cur_miss L 0 E, cur_miss L 0 E]
                · intro j o' p' hj hsel hd'
                  rw [Nat.zero_add, hset] at hsel
                  by_cases hji : j = i
                  · subst hji; rw [hp] at hj; cases hj; exact hds hd'
                  · rw [if_neg hji] at hsel; exact hw ⟨j, o', p', hj, hd', hsel⟩
                · intro j o' p' hj hsel hd'
                  rw [Nat.zero_add] at hsel
                  exact hw ⟨j, o', p', hj, hd', hsel⟩
            have hv := he s q hq2
            have : (a.put o.dst v).tmps.getD s undef = a.tmps.getD s undef := by
              cases hd : o.dst with
              | none => rfl
              | some d => exact put_other (fun e => hds (by rw [hd, e]))
            rw [this]
            exact q.st _ _ _ _ _ hb hv
      have hsetc : (listed.setIfInBounds i true).getD c false = (if c = i then true else listed.getD c false) := by
        rw [Array.getD_eq_getD_getElem?, Array.getElem?_setIfInBounds]
        by_cases hm : i = c
        · subst hm; simp [his]
        · rw [if_neg hm, if_neg (Ne.symm hm), Array.getD_eq_getD_getElem?]
      have hdown : ∀ (j : Nat) o', l[j]? = some o' → listed.getD j false = true → ∀ e ∈ o'.after, Region.binds .any e = true → listed.getD e.on false = true := by
        intro j o' hj hlj e he' hb
        obtain ⟨p', hp'⟩ := hL j o' (by simpa using hj)
        exact hJ.down j e.on o' p' hp' hlj (edge_spec.2 ⟨e, he', hb, rfl⟩)
      have henv : EnvFor M w (cur (fun j => decide (j < i)) 0 L E) o a := fun s q hs hq => by
        rw [hsame s (by unfold seen; simp [hs])] at hq
        exact he s q hq
      unfold wpOp
      rw [ho]
      by_cases hic : i = c
      · obtain ⟨hg0, hg⟩ := hgt hic
        dsimp only
        rw [if_pos (wanted_none hg0)]
        have hlc : listed.getD c false = false := by rw [← hic]; exact hu0
        rw [hlc] at hI
        refine .inl (step_turn (hg M w a hn henv hI) fun v w' M' hv hx hI2 => next v w' M' hv hx ?_)
        rw [hsetc, if_pos hic.symm]; exact hI2
      · have hgpi := hgp hic
        have hlc : listed.getD c false = decide (c < i) := by
          by_cases hlt : i < c
          · rw [decide_eq_false (by omega)]
            cases hlc : listed.getD c false with
            | false => rfl
            | true =>
              exfalso
              obtain ⟨oc, hoc⟩ : ∃ oc, l[c]? = some oc := ⟨l[c]'hcl, List.getElem?_eq_getElem hcl⟩
              have := befs_spec (fun j => listed.getD j false = true) l hdown c oc hoc (fun e he' hb => hdown c oc hoc hlc e he' hb) i (hA i hlt)
              rw [hu0] at this; cases this
          · rw [decide_eq_true (by omega)]
            exact befs_spec (fun j => listed.getD j false = true) l hdown i o ho' (fun e he' hb => hall e (by simpa using he') hb) c (hBc i (by omega) (by omega))
        rw [hlc] at hI
        have hI3 : (if i < c then I else I').h M w := by
          by_cases hlt : i < c
          · rw [decide_eq_false (by omega)] at hI; rw [if_pos hlt]; exact hI
          · rw [decide_eq_true (by omega)] at hI; rw [if_neg hlt]; exact hI
        refine gok_step hgpi henv (fun j want d q hgd hj hq => ?_) hI3 ?_
        · have hds : d ∈ seen l.toArray o := by unfold seen; rw [hgd]; exact List.mem_append.2 (.inr (by show d ∈ ((l.toArray[j]?).bind (·.dst)).toList; rw [hj]; simp))
          rw [hsame d hds] at hq
          exact he d q hq
        · intro v w' hpv hb
          refine next v w' M hpv (Ext.below hb) ?_
          rw [hsetc, if_neg (Ne.symm hic), hlc]
          exact Asn.st _ _ _ _ hb hI
  refine key l.length _ a _ ?_ ⟨by simp [hlen], ?_, ?_⟩
  · simp [List.count_replicate]
  · intro i k o p hp hl
    exfalso
    rw [Array.getD_eq_getD_getElem?, Array.getElem?_replicate] at hl
    split at hl <;> simp at hl
  · obtain ⟨M, hn, hdf, he, hI⟩ := hs
    have hb : Below w.heap.size w { w with drawn := w.drawn + 1 } := ⟨rfl, rfl, rfl, Nat.le_refl _, fun _ _ => rfl⟩
    refine ⟨M, hn, hdf, ?_, ?_⟩
    rotate_left
    · have : (Array.replicate l.toArray.size false).getD c false = false := by rw [Array.getD_eq_getD_getElem?, Array.getElem?_replicate]; split <;> rfl
      rw [this]; exact I.st _ _ _ hb hI
    intro s q hq
    rw [cur_miss L 0 E] at hq
    · exact q.st _ _ _ _ _ (Ext.below hb) (he s q hq)
    · intro j o p hj hsel
      exfalso
      rw [Array.getD_eq_getD_getElem?, Array.getElem?_replicate] at hsel
      split at hsel <;> simp at hsel

def FunD (P : Program) (f : FuncId) (args : List Pr) (pre : List Res) (res : Pr) (post : List Res) : Prop := FunL (α := Unit) P f args pre (fun _ => True) (fun _ => res) (fun _ => post)
section
variable {M0 : Av} {w0 : World} {S : Nat → Prop} {rs : List Res} {E : Env} {o : Oper} {g : Func} {M1 : Av} {w1 : World}
theorem FunD.of {f : FuncId} {c : Code} {ps : List Pr} {pre post : List Res} {res : Pr} (hf : P.funcs[f]? = some g) (hb : g.body = some c) (hname : (g.name == "runtime.NumGoroutine") = false) (hlen : ps.length ≤ g.ntmps)
    (h : ∀ M0 w0 S rs M1 w1, Tr P g.ntmps (penv 0 ps) (Hp M0 w0 S (pre ++ extRes M1 w1 :: rs)) c (bodyPost P g (BackL M0 w0 S rs M1 w1 (fun _ : Unit => True) (fun _ => res) (fun _ => post)))) : FunD P f ps pre res post :=
  FunL.of hf hb hname hlen h
theorem turn_call {f : FuncId} {xs : Array Operand} {ts : Array TypeId} {ps : List Pr} {pre post : List Res} {res : Pr} (rest : List Res) (hg : o.guard = none) (ho : o.op = .call { callee := .value (.func f), args := xs, argTypes := ts }) (hf : FunD P f ps pre res post)
    (hv : Vals E xs.toList ps) (hp : rs.Perm (pre ++ rest)) : OpTurn P n (Hp M0 w0 S rs) (Hp M0 w0 S (post ++ rest)) o E res := by
  refine ⟨hg, fun M w a hsz he hI => ?_⟩
  have hI : HpH M0 w0 S rs M w := hI
  have h1 := Vals.evalFor (o := o) he (xs := xs.toList) (fun x hx => by simp [ho, Op.operands, Call.operands]; exact .inr (by simpa using hx)) hv
  have hrun : (execOp a.eval o).run P w = .ok (.enter f (xs.toList.map a.eval).toArray) w := by
    simp [execOp, ho, resolve, Deferred.ofValue, Act.eval, invoke, run_callFunc hf.1, map_list xs]
  rw [hrun]
  refine (HpH.callL hf hp hI h1).mono ?_
  rintro e w' ⟨v, M', x, rfl, hC, h2, h3, h4⟩
  exact ⟨v, M', rfl, h2, h3, h4⟩
theorem turn_callv {f : FuncId} {cx : Operand} {xs : Array Operand} {ts : Array TypeId} {ps : List Pr} {pre post : List Res} {res : Pr} (rest : List Res) (hg : o.guard = none) (ho : o.op = .call { callee := .value cx, args := xs, argTypes := ts }) (hc : VL E cx (fn (.func f) [])) (hf : FunD P f ps pre res post)
    (hv : Vals E xs.toList ps) (hp : rs.Perm (pre ++ rest)) : OpTurn P n (Hp M0 w0 S rs) (Hp M0 w0 S (post ++ rest)) o E res := by
  refine ⟨hg, fun M w a hsz he hI => ?_⟩
  have hI : HpH M0 w0 S rs M w := hI
  have h1 := Vals.evalFor (o := o) he (xs := xs.toList) (fun x hx => by simp [ho, Op.operands, Call.operands]; exact .inr (by simpa using hx)) hv
  have hcv := hc.ev he (by simp [ho, Op.operands, Call.operands])
  have hrun : (execOp a.eval o).run P w = .ok (.enter f (xs.toList.map a.eval).toArray) w := by
    obtain ⟨cs, h2, hcs⟩ := hcv
    cases cs with
    | nil => simp [execOp, ho, resolve, Deferred.ofValue, h2, invoke, run_callFunc hf.1, map_list xs]
    | cons c cs => exact hcs.elim
  rw [hrun]
  refine (HpH.callL hf hp hI h1).mono ?_
  rintro e w' ⟨v, M', x, rfl, hC, h2, h3, h4⟩
  exact ⟨v, M', rfl, h2, h3, h4⟩
theorem TO.callD {Q : Exit → Act → World → Prop} {ops : Array Oper} {r : List Oper} {f : FuncId} {xs : Array Operand} {ts : Array TypeId} {ps : List Pr} {pre post : List Res} {res : Pr} {d : Nat} (rest : List Res) (hg : o.guard = none) (hd : o.dst = some d) (hn : d < n) (ho : o.op = .call { callee := .value (.func f), args := xs, argTypes := ts }) (hf : FunD P f ps pre res post)
    (hv : Vals E xs.toList ps) (hp : rs.Perm (pre ++ rest)) (k : TO P n ops r ((d, res) :: E) (Hp M0 w0 S (post ++ rest)) Q) : TO P n ops (o :: r) E (Hp M0 w0 S rs) Q :=
  TO.callL rest hg hd hn ho hf hv hp fun _ _ => k
theorem Fin.retD {rv : ResultVar} {q res : Pr} {post rs' : List Res} (hr : g.results = #[rv]) (h : RVal P E rs' rv q) (hl : Pr.le q res) (hp : rs'.Perm (post ++ extRes M1 w1 :: rs)) :
    Fin n E (Hp M0 w0 S rs') (bodyPost P g (BackL M0 w0 S rs M1 w1 (fun _ : Unit => True) (fun _ => res) (fun _ => post))) .ret :=
  Fin.retL1 () hr h trivial hl hp
/-- One that makes something of its own alone is plain. -/
theorem FunM.pure {f : FuncId} {args : List Pr} {res : Pr} {R' : Value → Res} (h : FunM P f args res noRes R') : Fun P f args res := by
  refine ⟨h.1, fun M w vs hb hv => ?_⟩
  refine (h.2 M w noS [] M w vs ((HpH.begin hb).add0 (r := noRes) rfl trivial) hv).mono ?_
  rintro e w' ⟨v, M', rfl, h2, h3, h4⟩
  exact ⟨v, rfl, res.st _ _ _ _ _ (Ext.less h4.m) h2, h4.below⟩
theorem rd_lenW {t e T : TypeId} {x : Operand} {sz j : Nat} {rows : List (List Pr)} {v : Value} (ho : o.op = .call { callee := .builtin .len, args := #[x], argTypes := #[t] }) (ht : P.underlying t = some (.slice e)) (hx : VL E x (is v)) :
    OpRd P M0 w0 S j (SR.c (oweRes T sz rows v)) o E (int ((rows.length : Nat) : Int)) := by
  intro M w a rs he hI hj
  have h1 : a.eval x = v := hx.ev he (by simp [ho, Op.operands, Call.operands])
  have hj' : rs[j]? = some (oweRes T sz rows v) := hj
  have hrun : ∃ A c, v = .slice A rows.length c := by
    rcases (hI.hold _ (List.mem_of_getElem? hj')).1 with ⟨rfl, A, hv⟩ | ⟨b, cap, spare, hv, _⟩
    · exact ⟨_, _, hv⟩
    · exact ⟨_, _, hv⟩
  obtain ⟨A, c, hv⟩ := hrun
  have : (execOp a.eval o).run P w = .ok (.value (.int .i64 ((rows.length : Nat) : Int))) w := by
    simp [execOp, ho, resolve, invoke, builtin, Builtin.len_, h1, hv, run_underlying ht, goInt]
  rw [this]
  exact ⟨rfl, Below.refl _ _⟩
end
end
end Cp
namespace Cp
open Go Go.RowKit Go.Great
section
variable {P : Program} {n : Nat} {E : Env} {M0 : Av} {w0 : World} {S : Nat → Prop} {rs : List Res} {o : Oper}
/-- The last m elements of a block, from the place off on. -/
def tailP (b off m : Nat) : Pr where
  h _ _ u := ∃ o c, u = .slice (some ⟨b, o, none⟩) m c ∧ (0 < m → o = off)
  st _M _w _M' _w' _v _ h := h
instance one_tailP (b off m : Nat) : One (tailP b off m) := ⟨by rintro M w u ⟨o, c, rfl, _⟩; exact ⟨rfl, rfl⟩⟩
theorem okb_sliceTail {I : Asn} {t e : TypeId} {x y : Operand} {k : IntKind} {l : Int} {sz b m cap : Nat} (ho : o.op = .slice t x (some y) none none) (ht : P.underlying t = some (.slice e)) (hz : sizeB P e = some sz) (hx : VL E x (is (.slice (some ⟨b, 0, none⟩) m cap))) (hy : VL E y (is (.int k l))) (h0 : 0 ≤ l) (hl : l ≤ m) (hc : m ≤ cap) :
    OpOK P I o E (tailP b (l.toNat * sz) (m - l.toNat)) :=
  OpOK.same fun M w a he _ => by
    have h1 : a.eval x = _ := hx.ev he (by simp [ho, Op.operands])
    have h3 : a.eval y = _ := hy.ev he (by simp [ho, Op.operands])
    by_cases hne : cap = l.toNat
    · refine ⟨.slice (some ⟨b, 0, none⟩) (m - l.toNat) (cap - l.toNat), ?_, 0, _, rfl, fun h => by omega⟩
      simp [execOp, ho, h1, h3, Instr.sliceAt, Instr.slice, run_underlying ht, Instr.sliceBounds, Instr.sliceBound, asIntOf, h0, hl, run_size hz, hne]
    · refine ⟨.slice (some ⟨b, l.toNat * sz, none⟩) (m - l.toNat) (cap - l.toNat), ?_, _, _, rfl, fun _ => rfl⟩
      simp [execOp, ho, h1, h3, Instr.sliceAt, Instr.slice, run_underlying ht, Instr.sliceBounds, Instr.sliceBound, asIntOf, h0, hl, run_size hz, hne, addr_add]
/-- append of a later part onto a part of the same block. -/
theorem ef_appTail {t e : TypeId} {x y : Operand} {sz d b k m cap off : Nat} {j : Nat} {new : Bool} {ps ps' : List Pr} (hg : o.guard = none) (hd : o.dst = some d) (hn : d < n) (ho : o.op = .call { callee := .builtin .append, args := #[x, y], argTypes := #[t, t] })
    (ht : P.underlying t = some (.slice e)) (hz : sizeB P e = some sz) (hx : VL E x (is (.slice (some ⟨b, 0, none⟩) k cap))) (hy : VL E y (tailP b off m)) (hroom : k + m ≤ cap) (hl : off + m * sz ≤ ps.length) (hl2 : k * sz + m * sz ≤ ps.length)
    (hps : ps.take (k * sz) ++ (ps.drop off).take (m * sz) ++ ps.drop (k * sz + m * sz) = ps') : OpEf P M0 w0 S n j (SR.c (cellsRes new b e ps)) (SR.c (cellsRes new b e ps')) o E (is (.slice (some ⟨b, 0, none⟩) (k + m) cap)) := by
  refine ⟨hg, fun M w a rs hszn he hI hj => ?_⟩
  have h1 : a.eval x = _ := hx.ev he (by simp [ho, Op.operands, Call.operands])
  obtain ⟨o2, c2, h2, ho2⟩ := hy.ev he (by simp [ho, Op.operands, Call.operands])
  obtain ⟨⟨_, cs, h4, h5, h6⟩, _⟩ := hI.hold _ (List.mem_of_getElem? hj)
  have h5l := h5.length
  have hnl : ((cs.drop off).take (m * sz)).length = m * sz := by rw [List.length_take, List.length_drop]; omega
  unfold sizeB at hz
  cases hi : P.info? e with
  | none => rw [hi] at hz; cases hz
  | some i =>
    rw [hi] at hz
    simp only [Option.map_some, Option.some.injEq] at hz
    have hrun := run_append_room (P := P) (w := w) t o.type e i ht hi b k cap cs.toArray h4 ⟨b, o2, none⟩ m c2 ((cs.drop off).take (m * sz)) (by rw [hz]; exact hnl) (fun q u hk => by
      rw [addr_add]
      rw [List.getElem?_take] at hk
      split at hk
      · rename_i hq
        have hm : 0 < m := by rcases Nat.eq_zero_or_pos m with h | h; subst h; simp at hq; exact h
        have := ho2 hm
        subst this
        rw [List.getElem?_drop] at hk; simp [World.cell?, h4, hk]
      · cases hk) (fun u hu => h6 u (List.mem_of_mem_drop (List.mem_of_mem_take hu))) hroom (by rw [hz, hnl]; simp; omega)
    rw [hz, hnl] at hrun
    obtain ⟨h7, h8⟩ := HpH.write (qs := ps') (cs := cs.take (k * sz) ++ (cs.drop off).take (m * sz) ++ cs.drop (k * sz + m * sz)) hI hj (by rw [← hps]; exact ((h5.take _).app ((h5.drop off).take _)).app (h5.drop _))
      (fun c hc => by
        simp only [List.mem_append] at hc
        rcases hc with (hc | hc) | hc
        · exact h6 c (List.mem_of_mem_take hc)
        · exact h6 c (List.mem_of_mem_drop (List.mem_of_mem_take hc))
        · exact h6 c (List.mem_of_mem_drop hc))
    have hrun2 : (execOp a.eval o).run P w = .ok (.value (.slice (some ⟨b, 0, none⟩) (k + m) cap)) (w.setRow b (cs.take (k * sz) ++ (cs.drop off).take (m * sz) ++ cs.drop (k * sz + m * sz)).toArray) := by
      simp [execOp, ho, resolve, invoke, builtin, h1, h2, hrun]
    rw [hrun2]
    exact ⟨M, rfl, h8, h7⟩
theorem ok_appEE {I : Asn} {t e : TypeId} {x y : Operand} {sz sz1 sz2 : Nat} (ho : o.op = .call { callee := .builtin .append, args := #[x, y], argTypes := #[t, t] }) (ht : P.underlying t = some (.slice e)) (hz : sizeB P e = some sz) (hx : VL E x (full sz1 [])) (hy : VL E y (slice sz2 [])) : OpOK P I o E (full sz []) :=
  OpOK.same fun M w a he _ => by
    obtain ⟨_, A, h1⟩ := hx.ev he (by simp [ho, Op.operands, Call.operands])
    obtain ⟨A', c', h2, _⟩ := hy.ev he (by simp [ho, Op.operands, Call.operands])
    simp only [List.length_nil] at h1 h2
    refine ⟨.slice A 0 0, ?_, void_full sz A M w⟩
    have hrun := run_append_zero (P := P) (ty := o.type) (A := A) (A' := A') (n := 0) (c := 0) (c' := c') ht hz (Nat.le_refl _) w
    simp [execOp, ho, resolve, invoke, builtin, h1, h2, hrun]
end
theorem rep1 {K : Nat} {r : List Pr} (h : K = 1) : (List.replicate K r).flatten = r := by subst h; simp
section
variable {P : Program} {n : Nat} {E : Env} {M0 : Av} {w0 : World} {S : Nat → Prop} {rs : List Res} {o : Oper}
theorem turn_ef {p : Pr} (j : Nat) {R R' : Res} (hR : rs[j]? = some R) (h : OpEf P M0 w0 S n j (SR.c R) (SR.c R') o E p) : OpTurn P n (Hp M0 w0 S rs) (Hp M0 w0 S (rs.set j R')) o E p := by
  refine ⟨h.1, fun M w a hsz he hI => ?_⟩
  have := h.2 M w a rs hsz he hI hR
  generalize (execOp a.eval o).run P w = r at this
  cases r with
  | halt x w' => exact this.elim
  | ok x w' =>
    cases x <;> first | exact this.elim | exact this
end
theorem flat_takeN {β : Type} {f : β → List Pr} {sz : Nat} (hf : ∀ x, (f x).length = sz) : ∀ (l : List β) (i : Nat), ((l.map f).flatten).take (i * sz) = ((l.take i).map f).flatten
  | [], i => by simp
  | a :: l, 0 => by simp
  | a :: l, i + 1 => by
    rw [List.map_cons, List.flatten_cons, List.take_succ_cons, List.map_cons, List.flatten_cons, ← flat_takeN hf l i, List.take_append, hf a, List.take_of_length_le (by rw [hf a, Nat.succ_mul]; omega), Nat.succ_mul, Nat.add_sub_cancel]
theorem flat_dropN {β : Type} {f : β → List Pr} {sz : Nat} (hf : ∀ x, (f x).length = sz) : ∀ (l : List β) (i : Nat), ((l.map f).flatten).drop (i * sz) = ((l.drop i).map f).flatten
  | [], i => by simp
  | a :: l, 0 => by simp
  | a :: l, i + 1 => by
    rw [List.map_cons, List.flatten_cons, List.drop_succ_cons, ← flat_dropN hf l i, List.drop_append, hf a, List.drop_of_length_le (by rw [hf a, Nat.succ_mul]; omega), Nat.succ_mul, Nat.add_sub_cancel]; rfl
theorem flat_insN {β : Type} {f : β → List Pr} {sz : Nat} (hf : ∀ x, (f x).length = sz) {l : List β} {i : Nat} {x : β} : ((l.map f).flatten).take (i * sz) ++ f x ++ ((l.map f).flatten).drop (i * sz) = ((l.take i ++ [x] ++ l.drop i).map f).flatten := by
  rw [flat_takeN hf, flat_dropN hf, List.map_append, List.map_append, List.flatten_append, List.flatten_append, List.map_singleton]; simp
theorem flat_delN {β : Type} {f : β → List Pr} {sz : Nat} (hf : ∀ x, (f x).length = sz) {l : List β} {i : Nat} : ((l.map f).flatten).take (i * sz) ++ ((l.map f).flatten).drop ((i + 1) * sz) = ((l.eraseIdx i).map f).flatten := by
  rw [flat_takeN hf, flat_dropN hf, List.eraseIdx_eq_take_drop_succ, List.map_append, List.flatten_append]
theorem ins_placeZ {A S X B : List Pr} {a z N o1 o2 o3 o4 o5 o6 : Nat} (hA : A.length = N) (ha : a + z ≤ N) (hX : X.length = z) (hS : z ≤ S.length) (h1 : o1 = a + z) (h2 : o2 = a) (h3 : o3 = N - a) (h4 : o4 = a + z + (N - a)) (h5 : o5 = a) (h6 : o6 = a + z) (hB : B = (A.take a ++ X ++ A.drop a) ++ S.drop z) :
    ((A ++ S).take o1 ++ ((A ++ S).drop o2).take o3 ++ (A ++ S).drop o4).take o5 ++ X ++ ((A ++ S).take o1 ++ ((A ++ S).drop o2).take o3 ++ (A ++ S).drop o4).drop o6 = B := by
  rw [h1, h2, h3, h4, h5, h6, hB]
  have e1 : (A ++ S).take (a + z) = A.take a ++ (A.drop a).take z := by rw [List.take_append_of_le_length (by omega), List.take_add]
  have e2 : ((A ++ S).drop a).take (N - a) = A.drop a := by
    rw [List.drop_append_of_le_length (by omega), List.take_append_of_le_length (by rw [List.length_drop]; omega), List.take_of_length_le (by rw [List.length_drop]; omega)]
  have e3 : (A ++ S).drop (a + z + (N - a)) = S.drop z := by
    rw [show a + z + (N - a) = A.length + z by omega, List.drop_append]; simp
  have l1 : (A.take a).length = a := by rw [List.length_take]; omega
  have l2 : ((A.drop a).take z).length = z := by rw [List.length_take, List.length_drop]; omega
  rw [e1, e2, e3]
  have t1 : (A.take a ++ (A.drop a).take z ++ A.drop a ++ S.drop z).take a = A.take a := by
    rw [List.append_assoc, List.append_assoc]; exact List.take_left' l1
  have t2 : (A.take a ++ (A.drop a).take z ++ A.drop a ++ S.drop z).drop (a + z) = A.drop a ++ S.drop z := by
    rw [List.append_assoc]; exact List.drop_left' (by rw [List.length_append]; omega)
  rw [t1, t2]
  simp
theorem ins_grownZ {A S Z X B R : List Pr} {a z N o0 o1 o2 o3 o4 : Nat} (hA : A.length = N) (ha : a ≤ N) (hX : X.length = z) (hZ : N + z - a ≤ Z.length) (h0 : o0 = a) (h1 : o1 = a) (h2 : o2 = a + z) (h3 : o3 = a + z) (h4 : o4 = a + z + (N - a)) (hR : R = A.drop a) (hB : B = (A.take a ++ X ++ A.drop a) ++ Z.drop (N + z - a)) :
    (((A ++ S).take o0 ++ Z).take o1 ++ X ++ ((A ++ S).take o0 ++ Z).drop o2).take o3 ++ R ++ (((A ++ S).take o0 ++ Z).take o1 ++ X ++ ((A ++ S).take o0 ++ Z).drop o2).drop o4 = B := by
  rw [h0, h1, h2, h3, h4, hR, hB]
  have l1 : (A.take a).length = a := by rw [List.length_take]; omega
  have e0 : (A ++ S).take a = A.take a := List.take_append_of_le_length (by omega)
  rw [e0]
  have e1 : (A.take a ++ Z).take a = A.take a := by rw [List.take_append_of_le_length (by omega), List.take_of_length_le (by omega)]
  have e2 : (A.take a ++ Z).drop (a + z) = Z.drop z := by rw [List.drop_append, List.drop_of_length_le (by omega), List.nil_append, l1]; congr 1; omega
  rw [e1, e2]
  have l2 : (A.take a ++ X).length = a + z := by rw [List.length_append]; omega
  have e3 : (A.take a ++ X ++ Z.drop z).take (a + z) = A.take a ++ X := by rw [List.take_append_of_le_length (by omega), List.take_of_length_le (by omega)]
  have e4 : (A.take a ++ X ++ Z.drop z).drop (a + z + (N - a)) = Z.drop (N + z - a) := by
    rw [List.drop_append, List.drop_of_length_le (by omega), List.nil_append, l2, List.drop_drop]; congr 1; omega
  rw [e3, e4]
theorem del_place {A S Z B : List Pr} {a z N o1 o2 o3 o4 o5 o6 : Nat} (hA : A.length = N) (ha : a + z ≤ N) (h1 : o1 = a) (h2 : o2 = a + z) (h3 : o3 = N - (a + z)) (h4 : o4 = N - z) (h5 : o5 = N - z) (h6 : o6 = N) (hB : B = (A.take a ++ A.drop (a + z)) ++ (Z ++ S)) :
    ((A ++ S).take o1 ++ ((A ++ S).drop o2).take o3 ++ (A ++ S).drop o4).take o5 ++ Z ++ ((A ++ S).take o1 ++ ((A ++ S).drop o2).take o3 ++ (A ++ S).drop o4).drop o6 = B := by
  rw [h1, h2, h3, h4, h5, h6, hB]
  have e1 : (A ++ S).take a = A.take a := by rw [List.take_append_of_le_length (by omega)]
  have e2 : ((A ++ S).drop (a + z)).take (N - (a + z)) = A.drop (a + z) := by
    rw [List.drop_append_of_le_length (by omega), List.take_append_of_le_length (by rw [List.length_drop]; omega), List.take_of_length_le (by rw [List.length_drop]; omega)]
  rw [e1, e2]
  have l1 : (A.take a ++ A.drop (a + z)).length = N - z := by rw [List.length_append, List.length_take, List.length_drop]; omega
  have t1 : (A.take a ++ A.drop (a + z) ++ (A ++ S).drop (N - z)).take (N - z) = A.take a ++ A.drop (a + z) := List.take_left' l1
  have t2 : (A.take a ++ A.drop (a + z) ++ (A ++ S).drop (N - z)).drop N = S := by
    rw [List.drop_append, List.drop_of_length_le (by omega), List.nil_append, l1, List.drop_drop, show N - z + (N - (N - z)) = A.length by omega, List.drop_left]
  rw [t1, t2]
  simp
section
variable {P : Program} {n : Nat} {E : Env} {M0 : Av} {w0 : World} {S : Nat → Prop} {rs : List Res}
/-- A slice of ours that a cell of ours holds is turned no more. -/
theorem St.frzWC {i j k sz b : Nat} {new : Bool} {T e : TypeId} {ps : List Pr} {rows : List (List Pr)} {v : Value} {p : Pr} (hi : rs[i]? = some (cellsRes new b T ps)) (hj : rs[j]? = some (oweRes e sz rows v)) (hij : j ≠ i) (hk : ps[k]? = some p) (hp : Pr.le p (is v)) (hl : ∀ r ∈ rows, r.length = sz) {a : Act} {w : World} (h : St n E (Hp M0 w0 S rs) a w) :
    St n E (Hp M0 w0 S ((rs.set j noRes).set i (cellsRes new b T (ps.set k (slice sz rows))))) a w := by
  obtain ⟨M, h1, h2, h3, h4⟩ := h
  have h4 : HpH M0 w0 S rs M w := h4
  have hi' : (rs.set j (oweRes e sz rows v))[i]? = some (cellsRes new b T ps) := by rw [List.getElem?_set_ne hij]; exact hi
  obtain ⟨M', g1, g2, g3⟩ := h4.frzW hj hl
  have gi : (rs.set j noRes)[i]? = some (cellsRes new b T ps) := by rw [List.getElem?_set_ne hij]; exact hi
  refine ⟨M', h1, h2, fun s q hq => q.st _ _ _ _ _ g1 (h3 s q hq), g2.swap1 gi rfl rfl ?_⟩
  obtain ⟨c1, cs, c2, c3, c4⟩ := (g2.hold _ (List.mem_of_getElem? gi)).1
  exact ⟨c1, cs, c2, c3.set hk (fun u hu => by rw [show u = v from hp _ _ _ hu]; exact g3), c4⟩
theorem Tr.frzWC {Q : Exit → Act → World → Prop} {c : Code} (i j k : Nat) {sz b : Nat} {new : Bool} {T e : TypeId} {ps : List Pr} {rows : List (List Pr)} {v : Value} {p : Pr} (hi : rs[i]? = some (cellsRes new b T ps)) (hj : rs[j]? = some (oweRes e sz rows v)) (hij : j ≠ i) (hk : ps[k]? = some p) (hp : Pr.le p (is v)) (hl : ∀ r ∈ rows, r.length = sz)
    (kk : Tr P n E (Hp M0 w0 S ((rs.set j noRes).set i (cellsRes new b T (ps.set k (slice sz rows))))) c Q) : Tr P n E (Hp M0 w0 S rs) c Q := Tr.conv (fun _ _ hs => hs.frzWC hi hj hij hk hp hl) kk
end
theorem row_set {β : Type} {f : β → List Pr} {l : List β} {k q m : Nat} {x : β} {qs : List Pr} (h : l[k]? = some x) (hq : (f x).take q ++ qs ++ (f x).drop (q + m) = f x) : (l.map f).set k ((f x).take q ++ qs ++ (f x).drop (q + m)) = l.map f := by
  rw [hq]
  refine List.ext_getElem? fun i => ?_
  rw [List.getElem?_set]
  by_cases hi : k = i
  · subst hi
    rw [if_pos rfl, List.getElem?_map, h]
    have := lt_of_at h
    rw [if_pos (by rw [List.length_map]; exact this)]; rfl
  · rw [if_neg hi]
theorem row_setI {β : Type} {f : β → List Pr} {l : List β} {k q m : Nat} {x : β} {qs : List Pr} (h : l[k]? = some x) (hq : (f x).take q ++ qs ++ (f x).drop (q + m) = f x) : (l.map f).set ((k : Nat) : Int).toNat ((f x).take q ++ qs ++ (f x).drop (q + m)) = l.map f := by
  rw [Int.toNat_natCast]; exact row_set h hq
end Cp
namespace Cp
open Go Go.RowKit Go.Great
section
variable {P : Program} {n : Nat} {E : Env} {M0 : Av} {w0 : World} {S : Nat → Prop} {rs : List Res} {o : Oper} {g : Func} {M1 : Av} {w1 : World}
/-- One that only reads what is held. -/
theorem FunD.gen {f : FuncId} {args args' : List Pr} {pre : List Res} {res : Pr} [Free res] (hfz : ∀ M0 w0 S rs M w, HpH M0 w0 S (pre ++ rs) M w → ∃ M', Ext M w M' w ∧ HpH M0 w0 S rs M' w ∧ ∀ vs, HL M w args vs → HL M' w args' vs)
    (h : Fun P f args' res) : FunD P f args pre res pre := by
  refine ⟨h.1, fun M0 w0 S rs M w vs hI hv => ?_⟩
  obtain ⟨M', hx, hI', ha⟩ := hfz M0 w0 S rs M w hI
  refine (h.2 M' w vs hI'.bd (ha vs hv)).mono ?_
  rintro e' w' ⟨u, rfl, h2, h3⟩
  exact ⟨u, M, (), rfl, trivial, Free.free _ _ _ _ h2, Ext.below h3, (Hp M0 w0 S _).st _ _ _ h3 hI⟩
theorem Row.hd {M : Av} {w : World} {ad : Addr} {p q : Pr} {ps : List Pr} (h : Row M w ad 0 (p :: ps)) (hq : ∀ u, p.h M w u → q.h M w u) : Row M w ad 0 (q :: ps) := by
  intro j r hr
  cases j with
  | zero =>
    simp at hr; subst hr
    obtain ⟨u, h1, h2, h3, h4⟩ := h 0 p rfl
    exact ⟨u, h1, h2, h3, hq u h4⟩
  | succ j => exact h (j + 1) r (by simpa using hr)
/-- A pointer to what points to what holds a list: all are looked at. -/
theorem FunD.look {f : FuncId} {wb ob : Nat} {WT OT e : TypeId} {wps ops rows ps : List Pr} {rws : List (List Pr)} {sz k : Nat} {v : Value} {res : Pr} [Free res] (hk : ops[k]? = some (is v)) (hl : ∀ r ∈ rws, r.length = sz) (ho : ops.set k (slice sz rws) = rows)
    (h : Fun P f (ref (ref rows :: wps) :: ps) res) : FunD P f (ptr wb 0 :: ps) [cellsRes true wb WT (ptr ob 0 :: wps), cellsRes true ob OT ops, oweRes e sz rws v] res [cellsRes true wb WT (ptr ob 0 :: wps), cellsRes true ob OT ops, oweRes e sz rws v] := by
  refine FunD.gen (fun M0 w0 S rs M w hI => ?_) h
  obtain ⟨Ma, a1, a2⟩ := HpH.frzWC (i := 1) (j := 2) (k := k) hI rfl rfl (by decide) hk hl
  rw [ho] at a2
  have a3 : HpH M0 w0 S (cellsRes true ob OT rows :: cellsRes true wb WT (ptr ob 0 :: wps) :: noRes :: rs) Ma w := HpH.perm (List.Perm.swap _ _ _) a2
  obtain ⟨Mb, b1, b2, b3⟩ := HpH.freeze1 a3
  obtain ⟨Mc, c1, c2, c3⟩ := HpH.freeze1 b1
  refine ⟨Mc, (a1.trans b2).trans c2, c1.drop1, fun vs hv => ?_⟩
  match vs, hv with
  | u0 :: vs1, hv1 =>
    obtain ⟨hu0, hv2⟩ := hv1
    refine ⟨⟨⟨wb, 0, none⟩, hu0, c3.hd fun u hu => ⟨⟨ob, 0, none⟩, hu, b3.st c2⟩⟩, hv2.st ((a1.trans b2).trans c2)⟩
/-- A part of a list, and a function value that looks at memory of ours. -/
theorem FunD.lookPart {f fg : FuncId} {wb : Nat} {WT e : TypeId} {wps : List Pr} {rws : List (List Pr)} {sz k : Nat} {v : Value} {res : Pr} [Free res] (hl : ∀ r ∈ rws, r.length = sz)
    (h : Fun P f [slice sz (rws.drop k), fn (.func fg) [ref [ref wps]]] res) : FunD P f [part sz v k, fn (.func fg) [ref [ptr wb 0]]] [cellsRes true wb WT wps, oweRes e sz rws v] res [cellsRes true wb WT wps, oweRes e sz rws v] := by
  refine FunD.gen (fun M0 w0 S rs M w hI => ?_) h
  obtain ⟨Ma, a1, a2, a3⟩ := HpH.frzW (j := 1) hI rfl hl
  obtain ⟨Mb, b1, b2, b3⟩ := HpH.freeze1 (rs := noRes :: rs) a2
  refine ⟨Mb, a1.trans b2, b1.drop1, fun vs hv => ?_⟩
  match vs, hv with
  | [u0, u1], hv1 =>
    obtain ⟨hu0, hu1, _⟩ := hv1
    refine ⟨part_slice ((slice sz rws).st _ _ _ _ _ b2 a3) ((part sz v k).st _ _ _ _ _ (a1.trans b2) hu0), ?_, trivial⟩
    obtain ⟨cs, rfl, hcs⟩ := hu1
    match cs, hcs with
    | [c0], hc1 =>
      obtain ⟨ad, rfl, hrow⟩ := hc1.1
      exact ⟨_, rfl, ⟨ad, rfl, (hrow.st (a1.trans b2)).hd fun u hu => ⟨⟨wb, 0, none⟩, hu, b3⟩⟩, trivial⟩
theorem ok_index1 {I : Asn} {t e : TypeId} {x y : Operand} {k : IntKind} {i : Int} {len : Nat} {ps : List Pr} {p : Pr} (ho : o.op = .index t x y) (ht : P.underlying t = some (.array len e)) (he : oneB P e = true) (hz : sizeB P e = some 1) (hx : VL E x (agg ps)) (hy : VL E y (is (.int k i))) (h0 : 0 ≤ i) (hl : i < len)
    (hp : ps[i.toNat]? = some p) : OpOK P I o E p :=
  OpOK.same fun M w ac hev _ => by
    obtain ⟨cs, h1, ho1, h2⟩ := hx.ev hev (by simp [ho, Op.operands])
    have h3 : ac.eval y = _ := hy.ev hev (by simp [ho, Op.operands])
    obtain ⟨u, hu, hpu⟩ := h2.at_ i.toNat p hp
    refine ⟨u, ?_, hpu⟩
    simp [execOp, ho, h1, h3, Instr.index, asIntOf, run_underlying ht, h0, hl, run_size hz, Go.part, run_isAgg_one he, hu]
/-- A store beside what hangs on a slot. -/
theorem ef_storeW {t : TypeId} {x y : Operand} {q0 : Tmp} {j : Nat} {new : Bool} {b off m : Nat} {T : TypeId} {ps : Value → List Pr} {qs : List Pr} (hg : o.guard = none) (hd : o.dst = none) (ho : o.op = .store t x y) (hx : VL E x (ptr b off)) (hy : VL E y (cellsP qs))
    (hz : sizeB P t = some m) (hm : qs.length = m) (hl : ∀ v, off + m ≤ (ps v).length) : OpEf P M0 w0 S n j ⟨.one q0, fun v => cellsRes new b T (ps v)⟩ ⟨.one q0, fun v => cellsRes new b T ((ps v).take off ++ qs ++ (ps v).drop (off + m))⟩ o E any := by
  refine ⟨hg, fun M w a rs hsz he hI hj => ?_⟩
  have hj' : rs[j]? = some (SR.at_ a (SR.c (cellsRes new b T (ps (a.tmps.getD q0 undef))))) := hj
  obtain ⟨h1, h2⟩ := ef_store (P := P) (M0 := M0) (w0 := w0) (S := S) (n := n) (j := j) (new := new) (T := T) (ps := ps (a.tmps.getD q0 undef)) (b := b) (off := off) hg ho hx hy hz hm (hl _) rfl
  have h3 := h2 M w a rs hsz he hI hj'
  revert h3
  generalize (execOp a.eval o).run P w = r
  have key : ∀ v, SR.at_ (a.put o.dst v) (SR.c (cellsRes new b T ((ps (a.tmps.getD q0 undef)).take off ++ qs ++ (ps (a.tmps.getD q0 undef)).drop (off + m)))) = SR.at_ (a.put o.dst v) ⟨.one q0, fun v => cellsRes new b T ((ps v).take off ++ qs ++ (ps v).drop (off + m))⟩ := fun v => by rw [hd]; rfl
  intro h3
  cases r with
  | halt x w' => exact h3
  | ok x w' =>
    cases x
    case value v => obtain ⟨M', g1, g2, g3⟩ := h3; exact ⟨M', g1, g2, by rw [← key]; exact g3⟩
    case skip => obtain ⟨M', g1, g2, g3⟩ := h3; exact ⟨M', g1, g2, by rw [← key]; exact g3⟩
    case enter f args =>
      refine Calls.mono h3 ?_
      rintro e w'' ⟨v, M', g0, g1, g2, g3⟩
      exact ⟨v, M', g0, g1, g2, by rw [← key]; exact g3⟩
    all_goals exact h3
theorem Fin.swap01 {Q : Exit → Act → World → Prop} {x : Exit} {r r' : Res} (k : Fin n E (Hp M0 w0 S (r' :: r :: rs)) Q x) : Fin n E (Hp M0 w0 S (r :: r' :: rs)) Q x :=
  Fin.conv (fun _ _ ⟨M, h1, h2, h3, h4⟩ => ⟨M, h1, h2, h3, HpH.perm (List.Perm.swap _ _ _) h4⟩) k
/-- A function that makes a thing of ours, and what it hands back. -/
def FunV (P : Program) (f : FuncId) (args : List Pr) (res : Value → Pr) (post : Value → List Res) : Prop := FunL (α := Value) P f args [] (fun _ => True) res post
theorem FunV.of {f : FuncId} {c : Code} {ps : List Pr} {res : Value → Pr} {post : Value → List Res} (hf : P.funcs[f]? = some g) (hb : g.body = some c) (hname : (g.name == "runtime.NumGoroutine") = false) (hlen : ps.length ≤ g.ntmps)
    (h : ∀ M0 w0 S rs M1 w1, Tr P g.ntmps (penv 0 ps) (Hp M0 w0 S (extRes M1 w1 :: rs)) c (bodyPost P g (BackL M0 w0 S rs M1 w1 (fun _ : Value => True) res post))) : FunV P f ps res post :=
  FunL.of hf hb hname hlen h
theorem Fin.retV {rv : ResultVar} {q : Pr} {res : Value → Pr} {post : Value → List Res} {rs' : List Res} (v : Value) (dr : List Res) (hr : g.results = #[rv]) (h : RVal P E rs' rv q) (hl : Pr.le q (res v)) (hp : rs'.Perm (dr ++ (post v ++ extRes M1 w1 :: rs))) :
    Fin n E (Hp M0 w0 S rs') (bodyPost P g (BackL M0 w0 S rs M1 w1 (fun _ : Value => True) res post)) .ret := by
  rintro a w ⟨M, _, hd, he, hi⟩
  have hi : HpH M0 w0 S rs' M w := hi
  obtain ⟨u, hu, hp'⟩ := h M w a he (fun q hq => (hi.hold q hq).1)
  obtain ⟨h1, h2⟩ := outL (HpH.dropL (HpH.perm hp hi))
  exact ⟨hd, u, results1 hr hu, _, M, v, rfl, trivial, hl _ _ _ hp', h1, h2⟩
theorem TO.callV {Q : Exit → Act → World → Prop} {ops : Array Oper} {r : List Oper} {f : FuncId} {xs : Array Operand} {ts : Array TypeId} {ps : List Pr} {res : Value → Pr} {post : Value → List Res} {d : Nat} (hg : o.guard = none) (hd : o.dst = some d) (hn : d < n) (ho : o.op = .call { callee := .value (.func f), args := xs, argTypes := ts }) (hf : FunV P f ps res post)
    (hv : Vals E xs.toList ps) (k : ∀ v, TO P n ops r ((d, res v) :: E) (Hp M0 w0 S (post v ++ rs)) Q) : TO P n ops (o :: r) E (Hp M0 w0 S rs) Q :=
  TO.callL rs hg hd hn ho hf hv (List.Perm.refl _) fun v _ => k v
end
end Cp
namespace Go.Proofs.Ytflodcidhlmaaaa
open Go Go.RowKit Cp

/-- A certificate. -/
structure Crt where
  serial : Int
  issuer : List UInt8
  subject : List UInt8
  kalg : Int
  kbits : Int
  keyId : Int
  halg : Int
  hbits : Int
  from_ : Int
  to_ : Int
  auth : Bool
  path : Int
  names : List (List UInt8)
  skey : Int
  ssum : Int
abbrev txts (l : List (List UInt8)) : Pr := slice 1 (l.map fun t => [str t])
abbrev rowCr (c : Crt) : List Pr := [int c.serial, str c.issuer, str c.subject, int c.kalg, int c.kbits, int c.keyId, int c.halg, int c.hbits, int c.from_, int c.to_, bool c.auth, int c.path, txts c.names, int c.skey, int c.ssum]
abbrev certs (l : List Crt) : Pr := slice 15 (l.map rowCr)
structure Crt.fits (c : Crt) : Prop where
  issuer : c.issuer.length ≤ maxLen
  subject : c.subject.length ≤ maxLen
  names : ∀ s ∈ c.names, s.length ≤ maxLen
def keyB (n : Int) : Bool := decide (0 ≤ n) && decide (n ≤ 2147483648)
def sumB (n : Int) : Bool := decide (0 ≤ n) && decide (n < 4294967296)
def letterB (o : List UInt8) (c : UInt8) : Bool := decide (97 ≤ c.toNat ∧ c.toNat ≤ 122) || decide (65 ≤ c.toNat ∧ c.toNat ≤ 90) || decide (48 ≤ c.toNat ∧ c.toNat ≤ 57) || decide (0 ≤ Lib.indexByte o c)
def wordB (s : List UInt8) : Bool := s.all (letterB [45, 95, 46]) && decide (1 ≤ s.length ∧ s.length ≤ 32)
def nameAt (l : List (List UInt8)) (i : Nat) : Bool := named (l[i]?.getD []) && (decide (i = 0) || decide (Lib.compareBytes (l[i - 1]?.getD []) (l[i]?.getD []) = -1))
def namesB (l : List (List UInt8)) : Bool := allI (nameAt l) l.length && decide (l.length ≤ 8)
def ofB (alg bits kind : Int) : Bool := decide (strength alg bits > 0) && (catOf alg).kind == kind
def validB (c : Crt) : Bool :=
  (decide (0 ≤ c.serial) && decide (c.serial ≤ 1099511627776) && named c.issuer && named c.subject && namesB c.names) &&
  (ofB c.kalg c.kbits 2 && keyB c.keyId && ofB c.halg c.hbits 1 && keyB c.skey && sumB c.ssum) &&
  (decide (0 ≤ c.from_) && decide (c.from_ ≤ c.to_) && decide (c.to_ ≤ 40000)) && (decide (0 ≤ c.path) && decide (c.path ≤ 8) && (c.auth || c.path == 0))
def showsB (alg bits id : Int) (l : List Crt) : Bool := ofB alg bits 2 && keyB id && decide (l.length ≤ 8) && l.all validB && match l with | [] => true | c :: _ => decide (c.kalg = alg ∧ c.kbits = bits) && c.keyId == id
/-- What an endpoint shows. -/
structure Idn where
  alg : Int
  bits : Int
  keyId : Int
  chain : List Crt
abbrev rowId (x : Idn) : List Pr := [int x.alg, int x.bits, int x.keyId, certs x.chain]
abbrev idns (l : List Idn) : Pr := slice 4 (l.map rowId)
def Idn.fits (x : Idn) : Prop := ∀ c ∈ x.chain, c.fits
/-- An endpoint. -/
structure Ept where
  name : List UInt8
  least : Int
  most : Int
  suites : List Int
  own : Bool
  ids : List Idn
  anchors : List Int
  hashes : List Int
  fall : Bool
abbrev rowEp (e : Ept) : List Pr := [str e.name, int e.least, int e.most, ints e.suites, bool e.own, idns e.ids, ints e.anchors, ints e.hashes, bool e.fall]
structure Ept.fits (e : Ept) : Prop where
  name : e.name.length ≤ maxLen
  ids : ∀ x ∈ e.ids, x.fits
def ascAt (l : List Int) (i : Nat) : Bool := decide (i = 0) || decide (l[i - 1]?.getD 0 < l[i]?.getD 0)
def ascB (l : List Int) : Bool := allI (ascAt l) l.length
def suiteAt (l : List Int) (i : Nat) : Bool := decide (1 ≤ l[i]?.getD 0 ∧ l[i]?.getD 0 ≤ 16) && !((l.take i).any fun x => l[i]?.getD 0 == x)
def suitesB (l : List Int) : Bool := allI (suiteAt l) l.length
def hashB (n : Int) : Bool := (catOf n).kind == 1
def idB (x : Idn) : Bool := showsB x.alg x.bits x.keyId x.chain
def eptB (e : Ept) : Bool :=
  (wordB e.name && decide (1 ≤ e.least) && decide (e.least ≤ e.most) && decide (e.most ≤ 4) && suitesB e.suites) &&
  (decide (e.ids.length ≤ 4) && decide (e.anchors.length ≤ 16) && ascB e.anchors && ascB e.hashes) && e.ids.all idB && e.anchors.all keyB && e.hashes.all hashB
theorem any_not {β : Type} (p : β → Bool) (l : List β) : (l.any fun x => !p x) = !l.all p := by
  induction l with
  | nil => rfl
  | cons a l ih => rw [List.any_cons, List.all_cons, ih]; cases p a <;> rfl
theorem getD_at {β : Type} {l : List β} {k : Nat} {x d : β} (h : l[k]? = some x) : l[k]?.getD d = x := by rw [h]; rfl

set_option maxRecDepth 20000 in
theorem w_slIB {s : List UInt8} {c : UInt8}  : Fun Try.prog 126 [str s, is (.int .u8 ((c.toNat : Nat) : Int))] (int (Lib.indexByte s c)) := by
 refine Fun.of Try.func126 rfl rfl (by exact Nat.le_of_ble_eq_true rfl) fun M0 w0 => ?_
 refine Tr.seq (Tr.reg0 (cm rfl (Ch.nil (Fin.go (Tr.seq (Tr.reg0 (cm rfl (cm rfl (co rfl (ok_idxbyte rfl Try.func145 (by kernel_rfl) (by kernel_rfl) (by kernel_rfl) (by kernel_rfl) (vl rfl) (vl rfl)) (cm rfl (Ch.nil (Fin.go (Tr.ret (Fin.ret1 rfl (OutW.bse _ _) rfl ?_))))))))))))))
 · exact Pr.le_refl _
set_option maxRecDepth 20000 in
theorem w_sIB {s : List UInt8} {c : UInt8}  : Fun Try.prog 96 [str s, is (.int .u8 ((c.toNat : Nat) : Int))] (int (Lib.indexByte s c)) := by
 refine Fun.of Try.func96 rfl rfl (by exact Nat.le_of_ble_eq_true rfl) fun M0 w0 => ?_
 refine Tr.seq (Tr.reg0 (cm rfl (Ch.nil (Fin.go (Tr.seq (Tr.reg0 (cm rfl (cm rfl (co rfl (ok_call rfl (w_slIB) ⟨ke rfl, ke rfl, trivial⟩) (cm rfl (Ch.nil (Fin.go (Tr.ret (Fin.ret1 rfl (OutW.bse _ _) rfl ?_))))))))))))))
 · exact Pr.le_refl _
set_option maxRecDepth 20000 in
theorem w_Letter {o : List UInt8} {c : UInt8}  : Fun Try.prog 65 [is (.int .u8 ((c.toNat : Nat) : Int)), str o] (bool (letterB o c)) := by
 refine Fun.of Try.func65 rfl rfl (by exact Nat.le_of_ble_eq_true rfl) fun M0 w0 => ?_
 refine Tr.seq (Tr.reg0 (cm rfl (Ch.nil (Fin.go (Tr.seq (Tr.reg0 (cm rfl (co rfl (ki rfl rfl rfl rfl) (cm rfl ?_)))))))))
 refine Ch.cs 7 rfl ?_ ?_ <;> intro h1 q1
 refine cym h1 rfl (cy h1 rfl (ki rfl rfl rfl rfl) (co rfl (kpt rfl rfl h1 rfl) (cm rfl ?_)))
 refine Ch.cs 11 rfl ?_ ?_ <;> intro h2 q2
 refine cnf h2 rfl (cnf h2 rfl (cnf h2 rfl (cu rfl (cu rfl (cnf h2 rfl (co rfl (kpt rfl rfl h2 rfl) (cm rfl (cnd rfl rfl (cnd rfl rfl (cnd rfl rfl (cu rfl (cu rfl (cnd rfl rfl ?_)))))))))))))
 refine co rfl (kpt rfl rfl rfl rfl) (cm rfl ?_)
 iterate 4 refine cnd rfl rfl ?_
 refine co rfl (kpt rfl rfl rfl rfl) (cm rfl (Ch.nil (Fin.go (wk1 4 rfl (Tr.ret (Fin.ret1 rfl (OutW.bse _ _) rfl ?_))))))
 · refine bool_eq ?_; unfold letterB; simp_all; omega
 refine cym h2 rfl (cy h2 rfl (ki rfl rfl rfl rfl) (cym h2 rfl ?_))
 refine Ch.cs 14 rfl ?_ ?_ <;> intro h3 q3
 refine cym h3 rfl (cy h3 rfl (ki rfl rfl rfl rfl) (cy h2 rfl (kpt rfl rfl h3 rfl) (co rfl (kpf rfl rfl h2 rfl) (cm rfl ?_))))
 refine Ch.cs 19 rfl ?_ ?_ <;> intro h4 q4
 refine cnf h4 rfl (cnf h4 rfl (cnf h4 rfl (cu rfl (cu rfl (cnf h4 rfl (co rfl (kpt rfl rfl h4 rfl) (cm rfl ?_)))))))
 iterate 4 refine cnd rfl rfl ?_
 refine co rfl (kpt rfl rfl rfl rfl) (cm rfl (Ch.nil (Fin.go (wk1 4 rfl (Tr.ret (Fin.ret1 rfl (OutW.bse _ _) rfl ?_))))))
 · refine bool_eq ?_; unfold letterB; simp_all; omega
 refine cym h4 rfl (cy h4 rfl (ki rfl rfl rfl rfl) (cym h4 rfl ?_))
 refine Ch.cs 22 rfl ?_ ?_ <;> intro h5 q5
 refine cym h5 rfl (cy h5 rfl (ki rfl rfl rfl rfl) (cy h4 rfl (kpt rfl rfl h5 rfl) (co rfl (kpf rfl rfl h4 rfl) (cm rfl ?_))))
 refine Ch.cs 27 rfl ?_ ?_ <;> intro h6 q6
 iterate 4 refine cnf h6 rfl ?_
 refine co rfl (kpt rfl rfl h6 rfl) (cm rfl (Ch.nil (Fin.go (wk1 4 rfl (Tr.ret (Fin.ret1 rfl (OutW.bse _ _) rfl ?_))))))
 · refine bool_eq ?_; unfold letterB; simp_all; omega
 refine cym h6 rfl (cym h6 rfl (cy h6 rfl (ok_call rfl (w_sIB) ⟨ke rfl, ke rfl, trivial⟩) (cy h6 rfl (ki rfl rfl rfl rfl) (co rfl (kpf rfl rfl h6 rfl) (cm rfl (Ch.nil (Fin.go (wk1 4 rfl (Tr.ret (Fin.ret1 rfl (OutW.bse _ _) rfl ?_))))))))))
 · refine bool_eq ?_; unfold letterB; simp_all; omega
 refine cnt h5 rfl (cnt h5 rfl (cy h4 rfl (kpf rfl rfl h5 rfl) (co rfl (kpf rfl rfl h4 rfl) (cm rfl (cym rfl rfl (cym rfl rfl (cy rfl rfl (ok_call rfl (w_sIB) ⟨ke rfl, ke rfl, trivial⟩) (cy rfl rfl (ki rfl rfl rfl rfl) (co rfl (kpf rfl rfl rfl rfl) (cm rfl (Ch.nil (Fin.go (wk1 4 rfl (Tr.ret ?_))))))))))))))
 refine Fin.ret1 rfl (OutW.bse _ _) rfl ?_
 · refine bool_eq ?_; unfold letterB; simp_all; omega
 refine cnt h3 rfl (cnt h3 rfl (cy h2 rfl (kpf rfl rfl h3 rfl) (co rfl (kpf rfl rfl h2 rfl) (cm rfl (cym rfl rfl (cy rfl rfl (ki rfl rfl rfl rfl) (cym rfl rfl ?_)))))))
 refine Ch.cs 22 rfl ?_ ?_ <;> intro h7 q7
 refine cym h7 rfl (cy h7 rfl (ki rfl rfl rfl rfl) (cy rfl rfl (kpt rfl rfl h7 rfl) (co rfl (kpf rfl rfl rfl rfl) (cm rfl ?_))))
 refine Ch.cs 27 rfl ?_ ?_ <;> intro h8 q8
 iterate 4 refine cnf h8 rfl ?_
 refine co rfl (kpt rfl rfl h8 rfl) (cm rfl (Ch.nil (Fin.go (wk1 4 rfl (Tr.ret (Fin.ret1 rfl (OutW.bse _ _) rfl ?_))))))
 · refine bool_eq ?_; unfold letterB; simp_all; omega
 refine cym h8 rfl (cym h8 rfl (cy h8 rfl (ok_call rfl (w_sIB) ⟨ke rfl, ke rfl, trivial⟩) (cy h8 rfl (ki rfl rfl rfl rfl) (co rfl (kpf rfl rfl h8 rfl) (cm rfl (Ch.nil (Fin.go (wk1 4 rfl (Tr.ret (Fin.ret1 rfl (OutW.bse _ _) rfl ?_))))))))))
 · refine bool_eq ?_; unfold letterB; simp_all; omega
 refine cnt h7 rfl (cnt h7 rfl (cy rfl rfl (kpf rfl rfl h7 rfl) (co rfl (kpf rfl rfl rfl rfl) (cm rfl (cym rfl rfl (cym rfl rfl (cy rfl rfl (ok_call rfl (w_sIB) ⟨ke rfl, ke rfl, trivial⟩) (cy rfl rfl (ki rfl rfl rfl rfl) (co rfl (kpf rfl rfl rfl rfl) (cm rfl (Ch.nil (Fin.go (wk1 4 rfl (Tr.ret ?_))))))))))))))
 refine Fin.ret1 rfl (OutW.bse _ _) rfl ?_
 · refine bool_eq ?_; unfold letterB; simp_all; omega
 refine cnt h1 rfl (cnt h1 rfl (co rfl (kpf rfl rfl h1 rfl) (cm rfl (cym rfl rfl (cy rfl rfl (ki rfl rfl rfl rfl) (cym rfl rfl ?_))))))
 refine Ch.cs 14 rfl ?_ ?_ <;> intro h9 q9
 refine cym h9 rfl (cy h9 rfl (ki rfl rfl rfl rfl) (cy rfl rfl (kpt rfl rfl h9 rfl) (co rfl (kpf rfl rfl rfl rfl) (cm rfl ?_))))
 refine Ch.cs 19 rfl ?_ ?_ <;> intro h10 q10
 refine cnf h10 rfl (cnf h10 rfl (cnf h10 rfl (cu rfl (cu rfl (cnf h10 rfl (co rfl (kpt rfl rfl h10 rfl) (cm rfl ?_)))))))
 iterate 4 refine cnd rfl rfl ?_
 refine co rfl (kpt rfl rfl rfl rfl) (cm rfl (Ch.nil (Fin.go (wk1 4 rfl (Tr.ret (Fin.ret1 rfl (OutW.bse _ _) rfl ?_))))))
 · refine bool_eq ?_; unfold letterB; simp_all; omega
 refine cym h10 rfl (cy h10 rfl (ki rfl rfl rfl rfl) (cym h10 rfl ?_))
 refine Ch.cs 22 rfl ?_ ?_ <;> intro h11 q11
 refine cym h11 rfl (cy h11 rfl (ki rfl rfl rfl rfl) (cy h10 rfl (kpt rfl rfl h11 rfl) (co rfl (kpf rfl rfl h10 rfl) (cm rfl ?_))))
 refine Ch.cs 27 rfl ?_ ?_ <;> intro h12 q12
 iterate 4 refine cnf h12 rfl ?_
 refine co rfl (kpt rfl rfl h12 rfl) (cm rfl (Ch.nil (Fin.go (wk1 4 rfl (Tr.ret (Fin.ret1 rfl (OutW.bse _ _) rfl ?_))))))
 · refine bool_eq ?_; unfold letterB; simp_all; omega
 refine cym h12 rfl (cym h12 rfl (cy h12 rfl (ok_call rfl (w_sIB) ⟨ke rfl, ke rfl, trivial⟩) (cy h12 rfl (ki rfl rfl rfl rfl) (co rfl (kpf rfl rfl h12 rfl) (cm rfl (Ch.nil (Fin.go (wk1 4 rfl (Tr.ret (Fin.ret1 rfl (OutW.bse _ _) rfl ?_))))))))))
 · refine bool_eq ?_; unfold letterB; simp_all; omega
 refine cnt h11 rfl (cnt h11 rfl (cy h10 rfl (kpf rfl rfl h11 rfl) (co rfl (kpf rfl rfl h10 rfl) (cm rfl (cym rfl rfl (cym rfl rfl (cy rfl rfl (ok_call rfl (w_sIB) ⟨ke rfl, ke rfl, trivial⟩) (cy rfl rfl (ki rfl rfl rfl rfl) (co rfl (kpf rfl rfl rfl rfl) (cm rfl (Ch.nil (Fin.go (wk1 4 rfl (Tr.ret ?_))))))))))))))
 refine Fin.ret1 rfl (OutW.bse _ _) rfl ?_
 · refine bool_eq ?_; unfold letterB; simp_all; omega
 refine cnt h9 rfl (cnt h9 rfl (cy rfl rfl (kpf rfl rfl h9 rfl) (co rfl (kpf rfl rfl rfl rfl) (cm rfl (cym rfl rfl (cy rfl rfl (ki rfl rfl rfl rfl) (cym rfl rfl ?_)))))))
 refine Ch.cs 22 rfl ?_ ?_ <;> intro h13 q13
 refine cym h13 rfl (cy h13 rfl (ki rfl rfl rfl rfl) (cy rfl rfl (kpt rfl rfl h13 rfl) (co rfl (kpf rfl rfl rfl rfl) (cm rfl ?_))))
 refine Ch.cs 27 rfl ?_ ?_ <;> intro h14 q14
 iterate 4 refine cnf h14 rfl ?_
 refine co rfl (kpt rfl rfl h14 rfl) (cm rfl (Ch.nil (Fin.go (wk1 4 rfl (Tr.ret (Fin.ret1 rfl (OutW.bse _ _) rfl ?_))))))
 · refine bool_eq ?_; unfold letterB; simp_all; omega
 refine cym h14 rfl (cym h14 rfl (cy h14 rfl (ok_call rfl (w_sIB) ⟨ke rfl, ke rfl, trivial⟩) (cy h14 rfl (ki rfl rfl rfl rfl) (co rfl (kpf rfl rfl h14 rfl) (cm rfl (Ch.nil (Fin.go (wk1 4 rfl (Tr.ret (Fin.ret1 rfl (OutW.bse _ _) rfl ?_))))))))))
 · refine bool_eq ?_; unfold letterB; simp_all; omega
 refine cnt h13 rfl (cnt h13 rfl (cy rfl rfl (kpf rfl rfl h13 rfl) (co rfl (kpf rfl rfl rfl rfl) (cm rfl (cym rfl rfl (cym rfl rfl (cy rfl rfl (ok_call rfl (w_sIB) ⟨ke rfl, ke rfl, trivial⟩) (cy rfl rfl (ki rfl rfl rfl rfl) (co rfl (kpf rfl rfl rfl rfl) (cm rfl (Ch.nil (Fin.go (wk1 4 rfl (Tr.ret ?_))))))))))))))
 refine Fin.ret1 rfl (OutW.bse _ _) rfl ?_
 · refine bool_eq ?_; unfold letterB; simp_all; omega
set_option maxRecDepth 20000 in
theorem w_Word {s : List UInt8} (hs : s.length ≤ maxLen) : Fun Try.prog 41 [str s] (bool (wordB s)) := by
 refine Fun.of Try.func41 rfl rfl (by exact Nat.le_of_ble_eq_true rfl) fun M0 w0 => ?_
 refine Tr.seq (Tr.reg0 (cm rfl (Ch.nil (Fin.go (Tr.seq (Tr.seq (Tr.reg0 (cm rfl (co rfl (ok_bytes rfl Try.underlying9 Try.underlying119 Try.underlying5 (vl rfl) (by assumption)) (co rfl (ok_lenm rfl Try.underlying119 (vl rfl)) (cm rfl (Ch.nil (Fin.go (Tr.block ?_))))))))))))))
 refine Tr.lenm 6 rfl fun hl6 => (Tr.loopw [(0, _), (6, _), (7, _)] (kk3 rfl) (fun k : Nat => [(8, int ((k : Nat) : Int))]) (fun k : Nat => k ≤ (s).length ∧ (∀ j y, j < k → s[j]? = some y → (!letterB [45, 95, 46] y) = false)) (fun k : Nat => (s).length - k) 0 (⟨Nat.zero_le _, fun j y hj => absurd hj (by omega)⟩) ⟨ke rfl, trivial⟩ ?_)
 rintro k ⟨hle_k, hinv_k⟩
 refine Tr.seq (Tr.reg0 (co rfl (ki rfl rfl rfl rfl) (Ch.nil (Fin.go (Tr.seq ?_)))))
 refine Tr.cn rfl ?_ ?_ <;> intro h1 q1
 have hk_k : k < (s).length := lt_of_dec h1
 obtain ⟨c, hx_k⟩ := at_ hk_k
 refine Tr.skip (Fin.go (Tr.seq (Tr.block (Tr.seq (Tr.reg0 (co rfl (ok_indexAddr rfl Try.underlying119 sz5 (vl rfl) (vl rfl) (by omega) (by exact row_at (by assumption))) ?_))))))
 refine co rfl (kl1 rfl one5 rfl) (cm rfl (Ch.nil (Fin.go (Tr.seq (Tr.reg0 (cm rfl (co rfl (ok_call rfl (w_Letter) ⟨ke rfl, ke rfl, trivial⟩) (co rfl (ok_not rfl (vl rfl)) (Ch.nil (Fin.go ?_))))))))))
 refine Tr.cn rfl ?_ ?_ <;> intro h2 q2
 refine Tr.seq (Tr.reg0 (cm rfl (Ch.nil (Fin.go (Tr.ret (Fin.block_ret (Fin.then_ret (Fin.then_ret (Fin.block_ret (Fin.then_ret (Fin.ret1 rfl (OutW.bse _ _) rfl ?_)))))))))))
 · refine bool_eq ?_; unfold wordB; rw [all_hit (p := letterB [45, 95, 46]) hx_k (by simp_all)]; rfl
 refine Tr.skip (Fin.block (Fin.go (Tr.reg0 (cad rfl rfl rfl rfl (by omega) (cm rfl (Ch.nil (Fin.fam_same (k + 1) ⟨⟨hk_k, step_no (p := fun c => !letterB [45, 95, 46] c) hx_k (by simp_all) hinv_k⟩, by omega⟩ ⟨⟨_, rfl, int_succ k⟩, ke rfl, ke rfl, ke rfl, trivial⟩)))))))
 have he_k : k = (s).length := by have := ge_of_dec h1; omega
 subst he_k
 refine Tr.exit (Fin.then_exit (Fin.then_exit (Fin.block_here (Fin.go (Tr.seq (Tr.reg0 (cm rfl (co rfl (ok_lens rfl Try.underlying9 (vl rfl)) (co rfl (ki rfl rfl rfl rfl) (cm rfl ?_))))))))))
 refine Ch.cs 19 rfl ?_ ?_ <;> intro h3 q3
 refine cym h3 rfl (cy h3 rfl (ok_lens rfl Try.underlying9 (vl rfl)) (cy h3 rfl (ki rfl rfl rfl rfl) (co rfl (kpt rfl rfl h3 rfl) (cm rfl (Ch.nil (Fin.go (wk1 2 rfl (Tr.ret (Fin.ret1 rfl (OutW.bse _ _) rfl ?_)))))))))
 · refine bool_eq ?_; unfold wordB; rw [all_end hinv_k, Bool.true_and]; rw [decide_eq_decide]; omega
 refine cnt h3 rfl (cnt h3 rfl (cnt h3 rfl (co rfl (kpf rfl rfl h3 rfl) (cm rfl (Ch.nil (Fin.go (wk1 2 rfl (Tr.ret (Fin.ret1 rfl (OutW.bse _ _) rfl ?_)))))))))
 · refine bool_eq ?_; unfold wordB; rw [all_end hinv_k, Bool.true_and]; symm; rw [decide_eq_false_iff_not]; omega
set_option maxRecDepth 20000 in
theorem w_CKey {n : Int}  : Fun Try.prog 48 [int n] (bool (keyB n)) := by
 refine Fun.of Try.func48 rfl rfl (by exact Nat.le_of_ble_eq_true rfl) fun M0 w0 => ?_
 refine Tr.seq (Tr.reg0 (cm rfl (Ch.nil (Fin.go (Tr.seq (Tr.reg0 (cm rfl (co rfl (ki rfl rfl rfl rfl) (cm rfl ?_)))))))))
 refine Ch.cs 5 rfl ?_ ?_ <;> intro h1 q1
 refine cym h1 rfl (cy h1 rfl (ki rfl rfl rfl rfl) (co rfl (kpt rfl rfl h1 rfl) (cm rfl (Ch.nil (Fin.go (Tr.ret (Fin.ret1 rfl (OutW.bse _ _) rfl ?_)))))))
 · refine bool_eq ?_; unfold keyB; simp_all
 refine cnt h1 rfl (cnt h1 rfl (co rfl (kpf rfl rfl h1 rfl) (cm rfl (Ch.nil (Fin.go (Tr.ret (Fin.ret1 rfl (OutW.bse _ _) rfl ?_)))))))
 · refine bool_eq ?_; unfold keyB; simp_all; omega
theorem e_CKey : Entry Try.prog 48 := ⟨_, Try.func48, rfl, rfl⟩
set_option maxRecDepth 20000 in
theorem w_Csum {n : Int}  : Fun Try.prog 133 [int n] (bool (sumB n)) := by
 refine Fun.of Try.func133 rfl rfl (by exact Nat.le_of_ble_eq_true rfl) fun M0 w0 => ?_
 refine Tr.seq (Tr.reg0 (cm rfl (Ch.nil (Fin.go (Tr.seq (Tr.reg0 (cm rfl (co rfl (ki rfl rfl rfl rfl) (cm rfl ?_)))))))))
 refine Ch.cs 5 rfl ?_ ?_ <;> intro h1 q1
 refine cym h1 rfl (cy h1 rfl (ki rfl rfl rfl rfl) (co rfl (kpt rfl rfl h1 rfl) (cm rfl (Ch.nil (Fin.go (Tr.ret (Fin.ret1 rfl (OutW.bse _ _) rfl ?_)))))))
 · refine bool_eq ?_; unfold sumB; simp_all
 refine cnt h1 rfl (cnt h1 rfl (co rfl (kpf rfl rfl h1 rfl) (cm rfl (Ch.nil (Fin.go (Tr.ret (Fin.ret1 rfl (OutW.bse _ _) rfl ?_)))))))
 · refine bool_eq ?_; unfold sumB; simp_all; omega
set_option maxRecDepth 20000 in
theorem w_Cof {alg bits kind : Int}  : Fun Try.prog 132 [agg [int alg, int bits], int kind] (bool (ofB alg bits kind)) := by
 refine Fun.of Try.func132 rfl rfl (by exact Nat.le_of_ble_eq_true rfl) fun M0 w0 => ?_
 refine Tr.seq (Tr.reg0 (co rfl (ok_box rfl (VL.le (vl rfl) (agg_cellsP _))) (cm rfl (Ch.nil (Fin.go (Tr.seq (Tr.reg0 (co rfl (ok_loadA rfl agg51 sz51 (vl rfl) rfl rfl) (co rfl (ok_call rfl (w_Valid) ⟨ke rfl, trivial⟩) (cm rfl ?_))))))))))
 refine Ch.cs 7 rfl ?_ ?_ <;> intro h1 q1
 refine cy h1 rfl (kfa rfl fo51_0 rfl rfl) (cy h1 rfl (kl1 rfl one3 rfl) (cy h1 rfl (ok_call rfl (w_Kind) ⟨ke rfl, trivial⟩) (cym h1 rfl (cy h1 rfl (ki rfl rfl rfl rfl) (co rfl (kpt rfl rfl h1 rfl) (cm rfl (Ch.nil (Fin.go (Tr.ret (Fin.ret1 rfl (OutW.bse _ _) rfl ?_))))))))))
 · refine bool_eq ?_; unfold ofB; simp_all
 iterate 5 refine cnt h1 rfl ?_
 refine co rfl (kpf rfl rfl h1 rfl) (cm rfl (Ch.nil (Fin.go (Tr.ret (Fin.ret1 rfl (OutW.bse _ _) rfl ?_)))))
 · refine bool_eq ?_; unfold ofB; simp_all; omega
set_option maxRecDepth 20000 in
theorem w_Cnamed {l : List (List UInt8)} (hf : ∀ s ∈ l, s.length ≤ maxLen) : Fun Try.prog 131 [txts l] (bool (namesB l)) := by
 refine Fun.of Try.func131 rfl rfl (by exact Nat.le_of_ble_eq_true rfl) fun M0 w0 => ?_
 refine Tr.lenm 0 rfl fun hlm_0 => (Tr.seq (Tr.reg0 (cm rfl (Ch.nil (Fin.go (Tr.seq (Tr.seq (Tr.reg0 (cm rfl (co rfl (ok_lenm rfl Try.underlying62 (vl rfl)) (cm rfl (Ch.nil (Fin.go (Tr.block ?_))))))))))))))
 refine Tr.loopw [(0, _), (5, _), (6, _)] (kk3 rfl) (fun k : Nat => [(7, int ((k : Nat) : Int))]) (fun k : Nat => k ≤ (l).length ∧ (∀ j, j < k → nameAt l j = true)) (fun k : Nat => (l).length - k) 0 (⟨Nat.zero_le _, fun j hj => absurd hj (by omega)⟩) ⟨ke rfl, trivial⟩ ?_
 rintro k ⟨hle_k, hinv_k⟩
 refine Tr.seq (Tr.reg0 (co rfl (ki rfl rfl rfl rfl) (Ch.nil (Fin.go (Tr.seq ?_)))))
 refine Tr.cn rfl ?_ ?_ <;> intro h1 q1
 have hk_k : k < (l).length := lt_of_dec h1
 obtain ⟨s, hx_k⟩ := at_ hk_k
 have hsf := hf s (List.mem_of_getElem? hx_k)
 have hg := getD_at (d := []) hx_k
 refine Tr.skip (Fin.go (Tr.seq (Tr.block (Tr.seq (Tr.reg0 (cm rfl (co rfl (ok_indexAddr rfl Try.underlying62 sz9 (vl rfl) (vl rfl) (by omega) (row_at hx_k)) (co rfl (kl1 rfl one9 rfl) (cm rfl (cm rfl (Ch.nil (Fin.go (Tr.seq (Tr.reg0 ?_))))))))))))))
 refine cm rfl (co rfl (ok_call rfl (w_Named hsf) ⟨ke rfl, trivial⟩) (co rfl (ok_not rfl (vl rfl)) (cm rfl ?_)))
 refine Ch.cs 15 rfl ?_ ?_ <;> intro h2 q2
 refine cnf h2 rfl (cnf h2 rfl (cnf h2 rfl ?_))
 iterate 7 refine cu rfl ?_
 refine cnf h2 rfl (co rfl (kpt rfl rfl h2 rfl) (Ch.nil (Fin.go (wk5 0 5 6 7 27 rfl (Tr.cond rfl (fun _ => ?_) (fun h => nomatch h))))))
 refine Tr.seq (Tr.reg0 (cm rfl (Ch.nil (Fin.go (Tr.ret (Fin.block_ret (Fin.then_ret (Fin.then_ret (Fin.block_ret (Fin.then_ret (Fin.ret1 rfl (OutW.bse _ _) rfl ?_)))))))))))
 · refine bool_eq ?_; unfold namesB; rw [allI_hit (p := nameAt l) (k := k) (by omega) (by unfold nameAt; rw [hg]; simp_all)]; rfl
 refine cym h2 rfl (cy h2 rfl (ki rfl rfl rfl rfl) (cym h2 rfl ?_))
 refine Ch.cs 18 rfl ?_ ?_ <;> intro h3 q3
 have hk0 : 0 < k := by simpa using h3
 obtain ⟨y, hy⟩ := at_ (l := l) (k := k - 1) (by omega)
 have hgy := getD_at (d := []) hy
 refine cym h3 rfl (cym h3 rfl ?_)
 refine cy h3 rfl (ok_sub rfl (vl rfl) (vl rfl) ?hin) ?_; case hin => unfold InI; omega
 refine cy h3 rfl (ok_indexAddr rfl Try.underlying62 sz9 (vl rfl) (vl rfl) (by omega) (by rw [show ((k : Nat) : Int) - 1 = ((k - 1 : Nat) : Int) by omega]; exact row_at hy)) ?_
 refine cy h3 rfl (kl1 rfl one9 rfl) (cym h3 rfl (cy h3 rfl (ok_ges rfl (vl rfl) (vl rfl)) (cy h2 rfl (kpt rfl rfl h3 rfl) (co rfl (kpf rfl rfl h2 rfl) (Ch.nil (Fin.go (wk5 0 5 6 7 27 rfl ?_)))))))
 refine Tr.cn rfl ?_ ?_ <;> intro h4 q4
 refine Tr.seq (Tr.reg0 (cm rfl (Ch.nil (Fin.go (Tr.ret (Fin.block_ret (Fin.then_ret (Fin.then_ret (Fin.block_ret (Fin.then_ret (Fin.ret1 rfl (OutW.bse _ _) rfl ?_)))))))))))
 · refine bool_eq ?_; unfold namesB; rw [allI_hit (p := nameAt l) (k := k) (by omega) (by unfold nameAt; rw [hg, hgy]; simp_all; omega)]; rfl
 refine Tr.skip (Fin.block (Fin.go (Tr.reg0 (cad rfl rfl rfl rfl (by omega) (cm rfl (Ch.nil ?_))))))
 exact Fin.fam_same (k + 1) ⟨⟨hk_k, allI_step hinv_k (by unfold nameAt; rw [hg, hgy]; simp_all)⟩, by omega⟩ ⟨⟨_, rfl, int_succ k⟩, ke rfl, ke rfl, ke rfl, trivial⟩
 iterate 7 refine cnt h3 rfl ?_
 refine cy h2 rfl (kpf rfl rfl h3 rfl) (co rfl (kpf rfl rfl h2 rfl) (Ch.nil (Fin.go (wk5 0 5 6 7 27 rfl (Tr.cond rfl (fun h => nomatch h) (fun _ => ?_))))))
 refine Tr.skip (Fin.block (Fin.go (Tr.reg0 (cad rfl rfl rfl rfl (by omega) (cm rfl (Ch.nil ?_))))))
 exact Fin.fam_same (k + 1) ⟨⟨hk_k, allI_step hinv_k (by unfold nameAt; rw [hg]; simp_all)⟩, by omega⟩ ⟨⟨_, rfl, int_succ k⟩, ke rfl, ke rfl, ke rfl, trivial⟩
 have he_k : k = (l).length := by have := ge_of_dec h1; omega
 subst he_k
 refine Tr.exit (Fin.then_exit (Fin.then_exit (Fin.block_here (Fin.go (Tr.seq (Tr.reg0 (cm rfl (co rfl (ok_lenm rfl Try.underlying62 (vl rfl)) (co rfl (ki rfl rfl rfl rfl) (cm rfl (Ch.nil (Fin.go (Tr.ret (Fin.ret1 rfl (OutW.bse _ _) rfl ?_))))))))))))))
 · refine bool_eq ?_; unfold namesB; rw [allI_end hinv_k, Bool.true_and]; simp; omega
set_option maxRecDepth 20000 in
theorem w_Cvalid {c : Crt} (hc : c.fits) : Fun Try.prog 101 [agg (rowCr c)] (bool (validB c)) := by
 refine Fun.of Try.func101 rfl rfl (by exact Nat.le_of_ble_eq_true rfl) fun M0 w0 => ?_
 refine Tr.seq (Tr.reg0 (co rfl (ok_box rfl (VL.le (vl rfl) (agg_cellsP _))) (cm rfl (Ch.nil (Fin.go (Tr.seq (Tr.seq (Tr.reg0 (co rfl (kfa rfl fo91_0 rfl rfl) (co rfl (kl1 rfl one3 rfl) (co rfl (ki rfl rfl rfl rfl) (cm rfl ?_))))))))))))
 refine Ch.cs 6 rfl ?_ ?_ <;> intro h1 q1
 refine cnf h1 rfl (cnf h1 rfl (cnf h1 rfl (co rfl (kpt rfl rfl h1 rfl) (cm rfl ?_))))
 iterate 4 refine cnd rfl rfl ?_
 refine co rfl (kpt rfl rfl rfl rfl) (cm rfl ?_)
 iterate 4 refine cnd rfl rfl ?_
 refine co rfl (kpt rfl rfl rfl rfl) (cm rfl ?_)
 iterate 4 refine cnd rfl rfl ?_
 refine co rfl (kpt rfl rfl rfl rfl) (Ch.nil (Fin.go (wk2 1 28 rfl (Tr.cond rfl (fun _ => ?_) (fun h => nomatch h)))))
 refine Tr.seq (Tr.reg0 (cm rfl (Ch.nil (Fin.go (Tr.ret (Fin.then_ret (Fin.ret1 rfl (OutW.bse _ _) rfl ?_)))))))
 · refine bool_eq ?_; unfold validB; simp_all; omega
 refine cy h1 rfl (kfa rfl fo91_0 rfl rfl) (cy h1 rfl (kl1 rfl one3 rfl) (cy h1 rfl (ki rfl rfl rfl rfl) (co rfl (kpf rfl rfl h1 rfl) (cm rfl ?_))))
 refine Ch.cs 11 rfl ?_ ?_ <;> intro h2 q2
 iterate 4 refine cnf h2 rfl ?_
 refine co rfl (kpt rfl rfl h2 rfl) (cm rfl ?_)
 iterate 4 refine cnd rfl rfl ?_
 refine co rfl (kpt rfl rfl rfl rfl) (cm rfl ?_)
 iterate 4 refine cnd rfl rfl ?_
 refine co rfl (kpt rfl rfl rfl rfl) (Ch.nil (Fin.go (wk2 1 28 rfl (Tr.cond rfl (fun _ => ?_) (fun h => nomatch h)))))
 refine Tr.seq (Tr.reg0 (cm rfl (Ch.nil (Fin.go (Tr.ret (Fin.then_ret (Fin.ret1 rfl (OutW.bse _ _) rfl ?_)))))))
 · refine bool_eq ?_; unfold validB; simp_all; omega
 refine cy h2 rfl (kfa rfl fo91_1 rfl rfl) (cy h2 rfl (kl1 rfl one9 rfl) (cy h2 rfl (ok_call rfl (w_Named hc.issuer) ⟨ke rfl, trivial⟩) (cy h2 rfl (ok_not rfl (vl rfl)) (co rfl (kpf rfl rfl h2 rfl) (cm rfl ?_)))))
 refine Ch.cs 17 rfl ?_ ?_ <;> intro h3 q3
 iterate 4 refine cnf h3 rfl ?_
 refine co rfl (kpt rfl rfl h3 rfl) (cm rfl ?_)
 iterate 4 refine cnd rfl rfl ?_
 refine co rfl (kpt rfl rfl rfl rfl) (Ch.nil (Fin.go (wk2 1 28 rfl (Tr.cond rfl (fun _ => ?_) (fun h => nomatch h)))))
 refine Tr.seq (Tr.reg0 (cm rfl (Ch.nil (Fin.go (Tr.ret (Fin.then_ret (Fin.ret1 rfl (OutW.bse _ _) rfl ?_)))))))
 · refine bool_eq ?_; unfold validB; simp_all
 refine cy h3 rfl (kfa rfl fo91_2 rfl rfl) (cy h3 rfl (kl1 rfl one9 rfl) (cy h3 rfl (ok_call rfl (w_Named hc.subject) ⟨ke rfl, trivial⟩) (cy h3 rfl (ok_not rfl (vl rfl)) (co rfl (kpf rfl rfl h3 rfl) (cm rfl ?_)))))
 refine Ch.cs 23 rfl ?_ ?_ <;> intro h4 q4
 iterate 4 refine cnf h4 rfl ?_
 refine co rfl (kpt rfl rfl h4 rfl) (Ch.nil (Fin.go (wk2 1 28 rfl (Tr.cond rfl (fun _ => ?_) (fun h => nomatch h)))))
 refine Tr.seq (Tr.reg0 (cm rfl (Ch.nil (Fin.go (Tr.ret (Fin.then_ret (Fin.ret1 rfl (OutW.bse _ _) rfl ?_)))))))
 · refine bool_eq ?_; unfold validB; simp_all
 refine cy h4 rfl (kfa rfl fo91_10 rfl rfl) (cy h4 rfl (kl1 rfl one62 rfl) (cy h4 rfl (ok_call rfl (w_Cnamed hc.names) ⟨ke rfl, trivial⟩) (cy h4 rfl (ok_not rfl (vl rfl)) (co rfl (kpf rfl rfl h4 rfl) (Ch.nil (Fin.go (wk2 1 28 rfl ?_)))))))
 refine Tr.cn rfl ?_ ?_ <;> intro h5 q5
 refine Tr.seq (Tr.reg0 (cm rfl (Ch.nil (Fin.go (Tr.ret (Fin.then_ret (Fin.ret1 rfl (OutW.bse _ _) rfl ?_)))))))
 · refine bool_eq ?_; unfold validB; simp_all
 refine Tr.skip (Fin.go (Tr.seq (Tr.seq (Tr.reg0 (co rfl (kfa rfl fo91_3 rfl rfl) (co rfl (ok_loadA rfl agg51 sz51 (vl rfl) rfl rfl) (co rfl (ok_call rfl (w_Cof) ⟨ke rfl, ke rfl, trivial⟩) (co rfl (ok_not rfl (vl rfl)) (cm rfl ?_)))))))))
 refine Ch.cs 33 rfl ?_ ?_ <;> intro h6 q6
 iterate 4 refine cnf h6 rfl ?_
 refine co rfl (kpt rfl rfl h6 rfl) (cm rfl ?_)
 iterate 4 refine cnd rfl rfl ?_
 refine co rfl (kpt rfl rfl rfl rfl) (cm rfl ?_)
 iterate 5 refine cnd rfl rfl ?_
 refine co rfl (kpt rfl rfl rfl rfl) (cm rfl ?_)
 iterate 5 refine cnd rfl rfl ?_
 refine co rfl (kpt rfl rfl rfl rfl) (Ch.nil (Fin.go (wk2 1 58 rfl (Tr.cond rfl (fun _ => ?_) (fun h => nomatch h)))))
 refine Tr.seq (Tr.reg0 (cm rfl (Ch.nil (Fin.go (Tr.ret (Fin.then_ret (Fin.ret1 rfl (OutW.bse _ _) rfl ?_)))))))
 · refine bool_eq ?_; unfold validB; simp_all
 refine cy h6 rfl (kfa rfl fo91_4 rfl rfl) (cy h6 rfl (kl1 rfl one3 rfl) (cy h6 rfl (ok_call rfl (w_CKey) ⟨ke rfl, trivial⟩) (cy h6 rfl (ok_not rfl (vl rfl)) (co rfl (kpf rfl rfl h6 rfl) (cm rfl ?_)))))
 refine Ch.cs 39 rfl ?_ ?_ <;> intro h7 q7
 iterate 4 refine cnf h7 rfl ?_
 refine co rfl (kpt rfl rfl h7 rfl) (cm rfl ?_)
 iterate 5 refine cnd rfl rfl ?_
 refine co rfl (kpt rfl rfl rfl rfl) (cm rfl ?_)
 iterate 5 refine cnd rfl rfl ?_
 refine co rfl (kpt rfl rfl rfl rfl) (Ch.nil (Fin.go (wk2 1 58 rfl (Tr.cond rfl (fun _ => ?_) (fun h => nomatch h)))))
 refine Tr.seq (Tr.reg0 (cm rfl (Ch.nil (Fin.go (Tr.ret (Fin.then_ret (Fin.ret1 rfl (OutW.bse _ _) rfl ?_)))))))
 · refine bool_eq ?_; unfold validB; simp_all
 refine cy h7 rfl (kfa rfl fo91_5 rfl rfl) (cy h7 rfl (ok_loadA rfl agg51 sz51 (vl rfl) rfl rfl) (cy h7 rfl (ok_call rfl (w_Cof) ⟨ke rfl, ke rfl, trivial⟩) (cy h7 rfl (ok_not rfl (vl rfl)) (co rfl (kpf rfl rfl h7 rfl) (cm rfl ?_)))))
 refine Ch.cs 45 rfl ?_ ?_ <;> intro h8 q8
 iterate 5 refine cnf h8 rfl ?_
 refine co rfl (kpt rfl rfl h8 rfl) (cm rfl ?_)
 iterate 5 refine cnd rfl rfl ?_
 refine co rfl (kpt rfl rfl rfl rfl) (Ch.nil (Fin.go (wk2 1 58 rfl (Tr.cond rfl (fun _ => ?_) (fun h => nomatch h)))))
 refine Tr.seq (Tr.reg0 (cm rfl (Ch.nil (Fin.go (Tr.ret (Fin.then_ret (Fin.ret1 rfl (OutW.bse _ _) rfl ?_)))))))
 · refine bool_eq ?_; unfold validB; simp_all
 refine cy h8 rfl (kfa rfl fo91_11 rfl rfl) (cy h8 rfl (kfa rfl fo89_0 rfl rfl) (cy h8 rfl (kl1 rfl one3 rfl) (cy h8 rfl (ok_call rfl (w_CKey) ⟨ke rfl, trivial⟩) (cy h8 rfl (ok_not rfl (vl rfl)) (co rfl (kpf rfl rfl h8 rfl) (cm rfl ?_))))))
 refine Ch.cs 52 rfl ?_ ?_ <;> intro h9 q9
 iterate 5 refine cnf h9 rfl ?_
 refine co rfl (kpt rfl rfl h9 rfl) (Ch.nil (Fin.go (wk2 1 58 rfl (Tr.cond rfl (fun _ => ?_) (fun h => nomatch h)))))
 refine Tr.seq (Tr.reg0 (cm rfl (Ch.nil (Fin.go (Tr.ret (Fin.then_ret (Fin.ret1 rfl (OutW.bse _ _) rfl ?_)))))))
 · refine bool_eq ?_; unfold validB; simp_all
 refine cy h9 rfl (kfa rfl fo91_11 rfl rfl) (cy h9 rfl (kfa rfl fo89_1 rfl rfl) (cy h9 rfl (kl1 rfl one3 rfl) (cy h9 rfl (ok_call rfl (w_Csum) ⟨ke rfl, trivial⟩) (cy h9 rfl (ok_not rfl (vl rfl)) (co rfl (kpf rfl rfl h9 rfl) (Ch.nil (Fin.go (wk2 1 58 rfl ?_))))))))
 refine Tr.cn rfl ?_ ?_ <;> intro h10 q10
 refine Tr.seq (Tr.reg0 (cm rfl (Ch.nil (Fin.go (Tr.ret (Fin.then_ret (Fin.ret1 rfl (OutW.bse _ _) rfl ?_)))))))
 · refine bool_eq ?_; unfold validB; simp_all
 refine Tr.skip (Fin.go (Tr.seq (Tr.seq (Tr.reg0 (co rfl (kfa rfl fo91_6 rfl rfl) (co rfl (kl1 rfl one3 rfl) (co rfl (ki rfl rfl rfl rfl) (cm rfl ?_))))))))
 refine Ch.cs 62 rfl ?_ ?_ <;> intro h11 q11
 iterate 5 refine cnf h11 rfl ?_
 refine co rfl (kpt rfl rfl h11 rfl) (cm rfl (cnd rfl rfl (cnd rfl rfl (cnd rfl rfl (co rfl (kpt rfl rfl rfl rfl) (Ch.nil (Fin.go (wk2 1 73 rfl (Tr.cond rfl (fun _ => ?_) (fun h => nomatch h))))))))))
 refine Tr.seq (Tr.reg0 (cm rfl (Ch.nil (Fin.go (Tr.ret (Fin.then_ret (Fin.ret1 rfl (OutW.bse _ _) rfl ?_)))))))
 · refine bool_eq ?_; unfold validB; simp_all; omega
 refine cy h11 rfl (kfa rfl fo91_6 rfl rfl) (cy h11 rfl (kl1 rfl one3 rfl) (cy h11 rfl (kfa rfl fo91_7 rfl rfl) (cy h11 rfl (kl1 rfl one3 rfl) (cy h11 rfl (ki rfl rfl rfl rfl) (co rfl (kpf rfl rfl h11 rfl) (cm rfl ?_))))))
 refine Ch.cs 69 rfl ?_ ?_ <;> intro h12 q12
 refine cnf h12 rfl (cnf h12 rfl (cnf h12 rfl (co rfl (kpt rfl rfl h12 rfl) (Ch.nil (Fin.go (wk2 1 73 rfl (Tr.cond rfl (fun _ => ?_) (fun h => nomatch h))))))))
 refine Tr.seq (Tr.reg0 (cm rfl (Ch.nil (Fin.go (Tr.ret (Fin.then_ret (Fin.ret1 rfl (OutW.bse _ _) rfl ?_)))))))
 · refine bool_eq ?_; unfold validB; simp_all; omega
 refine cy h12 rfl (kfa rfl fo91_7 rfl rfl) (cy h12 rfl (kl1 rfl one3 rfl) (cy h12 rfl (ki rfl rfl rfl rfl) (co rfl (kpf rfl rfl h12 rfl) (Ch.nil (Fin.go (wk2 1 73 rfl ?_))))))
 refine Tr.cn rfl ?_ ?_ <;> intro h13 q13
 refine Tr.seq (Tr.reg0 (cm rfl (Ch.nil (Fin.go (Tr.ret (Fin.then_ret (Fin.ret1 rfl (OutW.bse _ _) rfl ?_)))))))
 · refine bool_eq ?_; unfold validB; simp_all; omega
 refine Tr.skip (Fin.go (Tr.seq (Tr.reg0 (co rfl (kfa rfl fo91_9 rfl rfl) (co rfl (kl1 rfl one3 rfl) (co rfl (ki rfl rfl rfl rfl) (cm rfl ?_)))))))
 refine Ch.cs 77 rfl ?_ ?_ <;> intro h14 q14
 refine cy h14 rfl (kfa rfl fo91_9 rfl rfl) (cy h14 rfl (kl1 rfl one3 rfl) (cy h14 rfl (ki rfl rfl rfl rfl) (co rfl (kpt rfl rfl h14 rfl) (cm rfl ?_))))
 refine Ch.cs 82 rfl ?_ ?_ <;> intro h15 q15
 refine cy h15 rfl (kfa rfl fo91_8 rfl rfl) (cy h15 rfl (kl1 rfl one4 rfl) (cym h15 rfl ?_))
 refine Ch.cs 85 rfl ?_ ?_ <;> intro h16 q16
 refine cnf h16 rfl (cnf h16 rfl (cnf h16 rfl (cy h15 rfl (kpt rfl rfl h16 rfl) (co rfl (kpt rfl rfl h15 rfl) (cm rfl (Ch.nil (Fin.go (wk1 2 rfl (Tr.ret (Fin.ret1 rfl (OutW.bse _ _) rfl ?_))))))))))
 · refine bool_eq ?_; unfold validB; simp_all
 refine cy h16 rfl (kfa rfl fo91_9 rfl rfl) (cy h16 rfl (kl1 rfl one3 rfl) (cy h16 rfl (ki rfl rfl rfl rfl) (cy h15 rfl (kpf rfl rfl h16 rfl) (co rfl (kpt rfl rfl h15 rfl) (cm rfl (Ch.nil (Fin.go (wk1 2 rfl (Tr.ret (Fin.ret1 rfl (OutW.bse _ _) rfl ?_))))))))))
 · refine bool_eq ?_; unfold validB; simp_all
 refine cnt h15 rfl (cnt h15 rfl (cnt h15 rfl (cu rfl (cu rfl (cu rfl (cnt h15 rfl (co rfl (kpf rfl rfl h15 rfl) (cm rfl (Ch.nil (Fin.go (wk1 2 rfl (Tr.ret (Fin.ret1 rfl (OutW.bse _ _) rfl ?_)))))))))))))
 · refine bool_eq ?_; unfold validB; simp_all; omega
 refine cnt h14 rfl (cnt h14 rfl (cnt h14 rfl (co rfl (kpf rfl rfl h14 rfl) (cm rfl (cnd rfl rfl (cnd rfl rfl (cnd rfl rfl (cu rfl (cu rfl (cu rfl (cnd rfl rfl (co rfl (kpf rfl rfl rfl rfl) (cm rfl ?_)))))))))))))
 refine Ch.nil (Fin.go (wk1 2 rfl (Tr.ret (Fin.ret1 rfl (OutW.bse _ _) rfl ?_))))
 · refine bool_eq ?_; unfold validB; simp_all; omega
set_option maxRecDepth 20000 in
theorem w_CCheck {c : Crt} (hc : c.fits) : Fun Try.prog 70 [agg (rowCr c)] (int (if validB c then 0 else 9)) := by
 refine Fun.of Try.func70 rfl rfl (by exact Nat.le_of_ble_eq_true rfl) fun M0 w0 => ?_
 refine Tr.seq (Tr.reg0 (co rfl (ok_box rfl (VL.le (vl rfl) (agg_cellsP _))) (cm rfl (Ch.nil (Fin.go (Tr.seq (Tr.seq (Tr.reg0 (co rfl (ok_loadA rfl agg91 sz91 (vl rfl) rfl rfl) (co rfl (ok_call rfl (w_Cvalid (by assumption)) ⟨ke rfl, trivial⟩) (co rfl (ok_not rfl (vl rfl)) (Ch.nil (Fin.go ?_)))))))))))))
 refine Tr.cn rfl ?_ ?_ <;> intro h1 q1
 refine Tr.seq (Tr.reg0 (cm rfl (Ch.nil (Fin.go (Tr.ret (Fin.then_ret (Fin.ret1 rfl (OutW.bse _ _) rfl ?_)))))))
 · refine int_eq ?_; simp_all
 refine Tr.skip (Fin.go (Tr.seq (Tr.reg0 (cm rfl (Ch.nil (Fin.go (Tr.ret (Fin.ret1 rfl (OutW.bse _ _) rfl ?_))))))))
 · refine int_eq ?_; simp_all
end Go.Proofs.Ytflodcidhlmaaaa
namespace Go.Proofs.Ytflodcidhlmaaaa
open Go Go.RowKit Cp

abbrev anyRow : List Pr := [any, any, any, any, any, any, any, any, any, any, any, any]
abbrev anyRows : List (List Pr) := [anyRow, anyRow, anyRow, anyRow, anyRow, anyRow, anyRow, anyRow, anyRow, anyRow, anyRow, anyRow, anyRow, anyRow, anyRow, anyRow]
theorem any_at {q : List Pr} {k o : Nat} (hk : k < 16) (ho : o = k * 12) : (anyRows.flatten ++ q)[o]? = some any := by
  subst ho
  have h : anyRows[k]? = some anyRow := by
    have hk' : k < anyRows.length := hk
    rw [List.getElem?_eq_getElem hk']
    have : ∀ r ∈ anyRows, r = anyRow := by intro r hr; simp at hr; exact hr
    rw [this _ (List.getElem_mem hk')]
  have hl : ∀ r ∈ anyRows, r.length = 12 := by intro r hr; simp at hr; rw [hr]; rfl
  rw [List.getElem?_append_left (by rw [flat_len hl]; show k * 12 < 16 * 12; omega)]
  exact flat_at (j := 0) hl h (by omega)
theorem any_rows {k : Nat} (hk : k < 16) : anyRows[k]? = some anyRow := by
  have hk' : k < anyRows.length := hk
  rw [List.getElem?_eq_getElem hk']
  have : ∀ r ∈ anyRows, r = anyRow := by intro r hr; simp at hr; exact hr
  rw [this _ (List.getElem_mem hk')]
theorem any_len : ∀ r ∈ anyRows, r.length = 12 := by intro r hr; simp at hr; rw [hr]; rfl
theorem anyRow_at {i : Nat} {p : Pr} (h : anyRow[i]? = some p) : p = any := by have := List.mem_of_getElem? h; simp at this; exact this
theorem agg_any {ps : List Pr} (h : ps.length = 12) : Pr.le (agg ps) (agg anyRow) := fun M w v ⟨cs, h1, h2, h3⟩ => ⟨cs, h1, h2, HL.of_at (by rw [h3.length, h]; rfl) fun i p v hp _ => by rw [anyRow_at hp]; trivial⟩
def headB (alg bits id : Int) (l : List Crt) : Bool := match l with | [] => true | c :: _ => decide (c.kalg = alg ∧ c.kbits = bits) && c.keyId == id
theorem headB_nil {alg bits id : Int} {l : List Crt} (h : l.length = 0) : headB alg bits id l = true := by rw [List.eq_nil_of_length_eq_zero h]; rfl
theorem headB_at {alg bits id : Int} {l : List Crt} {c : Crt} (h : l[0]? = some c) : headB alg bits id l = (decide (c.kalg = alg ∧ c.kbits = bits) && c.keyId == id) := by
  cases l with
  | nil => simp at h
  | cons a l => simp at h; subst h; rfl
theorem showsB_eq (alg bits id : Int) (l : List Crt) : showsB alg bits id l = (ofB alg bits 2 && keyB id && decide (l.length ≤ 8) && l.all validB && headB alg bits id l) := rfl

set_option maxRecDepth 20000 in
theorem w_use {a b : Int}  : Fun Try.prog 127 [int a, int b] (agg [int a, int b]) := by
 refine Fun.of Try.func127 rfl rfl (by exact Nat.le_of_ble_eq_true rfl) fun M0 w0 => ?_
 refine Tr.seq (Tr.regT ?_)
 refine TO.alloc rfl rfl (by decide) rfl z51 zo51 (fun b1 => ?_)
 refine TO.nil (Fin.go (Tr.seq (Tr.regT (tm rfl (tm rfl (tp rfl (ok_build (rows := [(0, [_]), (1, [_])]) rfl bl51 zo51 ⟨⟨rfl, (VL.le (vl rfl) (one_cellsP _))⟩, ⟨⟨rfl, (VL.le (vl rfl) (one_cellsP _))⟩, trivial⟩⟩ rfl) (TO.store_all 0 rfl rfl rfl (vl rfl) (VL.le (vl rfl) (agg_cellsP _)) rfl sz51 rfl rfl (TO.nil (Fin.go (Tr.ret (Fin.retX1 rfl (RVal.cell 0 rfl rfl agg51 sz51 rfl (Pr.le_refl _)) ?_)))))))))))
 · exact Pr.le_refl _
set_option maxRecDepth 20000 in
set_option maxHeartbeats 2000000 in
theorem w_Suites   : Fun Try.prog 97 [] (slice 12 anyRows) := by
 refine Fun.of Try.func97 rfl rfl (by exact Nat.le_of_ble_eq_true rfl) fun M0 w0 => ?_
 refine Tr.seq (Tr.reg0 (cm rfl (Ch.nil (Fin.go (Tr.seq (Tr.regT ?_))))))
 iterate 4 refine tp rfl (ok_call rfl (w_use) ⟨ke rfl, ke rfl, trivial⟩) ?_
 refine tp rfl (ok_build (rows := []) rfl bl51 zo51 trivial rfl) ?_
 refine TO.alloc rfl rfl (by decide) rfl z51 zo51 (fun b1 => ?_)
 refine TO.alloc rfl rfl (by decide) rfl z51 zo51 (fun b2 => ?_)
 refine TO.alloc rfl rfl (by decide) rfl z51 zo51 (fun b3 => ?_)
 refine TO.alloc rfl rfl (by decide) rfl z51 zo51 (fun b4 => ?_)
 refine TO.alloc rfl rfl (by decide) rfl z51 zo51 (fun b5 => ?_)
 refine TO.store_all 4 rfl rfl rfl (vl rfl) (VL.le (vl rfl) (agg_cellsP _)) rfl sz51 rfl rfl (TO.freeze 4 1 rfl rfl (TO.store_all 3 rfl rfl rfl (vl rfl) (VL.le (vl rfl) (agg_cellsP _)) rfl sz51 rfl rfl (TO.freeze 3 2 rfl rfl (TO.store_all 2 rfl rfl rfl (vl rfl) (VL.le (vl rfl) (agg_cellsP _)) rfl sz51 rfl rfl (TO.freeze 2 3 rfl rfl (TO.store_all 1 rfl rfl rfl (vl rfl) (VL.le (vl rfl) (agg_cellsP _)) rfl sz51 rfl rfl (TO.freeze 1 4 rfl rfl (TO.store_all 0 rfl rfl rfl (vl rfl) (VL.le (vl rfl) (agg_cellsP _)) rfl sz51 rfl rfl (TO.freeze 0 5 rfl rfl (TO.nil (Fin.go (wk5 1 2 3 4 5 rfl (Tr.seq (Tr.regT ?_))))))))))))))
 iterate 5 refine tp rfl (ok_call rfl (w_use) ⟨ke rfl, ke rfl, trivial⟩) ?_
 refine TO.alloc rfl rfl (by decide) rfl z51 zo51 (fun b6 => ?_)
 refine TO.alloc rfl rfl (by decide) rfl z51 zo51 (fun b7 => ?_)
 refine TO.alloc rfl rfl (by decide) rfl z51 zo51 (fun b8 => ?_)
 refine TO.alloc rfl rfl (by decide) rfl z51 zo51 (fun b9 => ?_)
 refine TO.alloc rfl rfl (by decide) rfl z51 zo51 (fun b10 => ?_)
 refine TO.store_all 4 rfl rfl rfl (vl rfl) (VL.le (vl rfl) (agg_cellsP _)) rfl sz51 rfl rfl (TO.freeze 4 6 rfl rfl (TO.store_all 3 rfl rfl rfl (vl rfl) (VL.le (vl rfl) (agg_cellsP _)) rfl sz51 rfl rfl (TO.freeze 3 7 rfl rfl (TO.store_all 2 rfl rfl rfl (vl rfl) (VL.le (vl rfl) (agg_cellsP _)) rfl sz51 rfl rfl (TO.freeze 2 8 rfl rfl (TO.store_all 1 rfl rfl rfl (vl rfl) (VL.le (vl rfl) (agg_cellsP _)) rfl sz51 rfl rfl (TO.freeze 1 9 rfl rfl (TO.store_all 0 rfl rfl rfl (vl rfl) (VL.le (vl rfl) (agg_cellsP _)) rfl sz51 rfl rfl (TO.freeze 0 10 rfl rfl (TO.nil (Fin.go (wk10 1 2 3 4 5 6 7 8 9 10 rfl (Tr.seq (Tr.regT ?_))))))))))))))
 iterate 4 refine tp rfl (ok_call rfl (w_use) ⟨ke rfl, ke rfl, trivial⟩) ?_
 refine TO.alloc rfl rfl (by decide) rfl z51 zo51 (fun b11 => ?_)
 refine TO.alloc rfl rfl (by decide) rfl z51 zo51 (fun b12 => ?_)
 refine TO.alloc rfl rfl (by decide) rfl z51 zo51 (fun b13 => ?_)
 refine TO.alloc rfl rfl (by decide) rfl z51 zo51 (fun b14 => ?_)
 refine TO.store_all 3 rfl rfl rfl (vl rfl) (VL.le (vl rfl) (agg_cellsP _)) rfl sz51 rfl rfl (TO.freeze 3 11 rfl rfl (TO.store_all 2 rfl rfl rfl (vl rfl) (VL.le (vl rfl) (agg_cellsP _)) rfl sz51 rfl rfl (TO.freeze 2 12 rfl rfl (TO.store_all 1 rfl rfl rfl (vl rfl) (VL.le (vl rfl) (agg_cellsP _)) rfl sz51 rfl rfl (TO.freeze 1 13 rfl rfl (TO.store_all 0 rfl rfl rfl (vl rfl) (VL.le (vl rfl) (agg_cellsP _)) rfl sz51 rfl rfl (TO.freeze 0 14 rfl rfl (TO.nil (Fin.go (wk14 1 2 3 4 5 6 7 8 9 10 11 12 13 14 rfl (Tr.seq (Tr.pad (Tr.regX mixed [none, none, none, none, none, none, none, none, none, none, none, none, none, none, none, none, none, none, none, none, none, none, none, none, none, none, none, none, none, none, none, none, none, none, none, none, none, none, none, none, none, none, none, none, none, none, none, none, none, none, none, none, none, none, none, none, none, none, none, none, none, none, none, none, none, none, none, none, none, none, none, none, none, none, none, none, none, none, none, none, some (0, 0, true, 111), some (111, 0, true, 15)] (by kernel_rfl) ?_)))))))))))))
 refine xo rfl (fun _ => ok_loadA rfl agg51 sz51 (vl rfl) rfl rfl) (xo rfl (fun _ => ok_loadA rfl agg51 sz51 (vl rfl) rfl rfl) (xo rfl (fun _ => ok_call rfl (w_use) ⟨ke rfl, ke rfl, trivial⟩) (xo rfl (fun _ => ok_loadA rfl agg51 sz51 (vl rfl) rfl rfl) (xo rfl (fun _ => ok_build (rows := [(1, [_]), (2, _), (3, _), (4, _), (5, _), (6, [_]), (7, [_])]) rfl bl125 zo125 ⟨⟨rfl, (VL.le (vl rfl) (one_cellsP _))⟩, ⟨⟨rfl, (VL.le (vl rfl) (agg_cellsP _))⟩, ⟨⟨rfl, (VL.le (vl rfl) (agg_cellsP _))⟩, ⟨⟨rfl, (VL.le (vl rfl) (agg_cellsP _))⟩, ⟨⟨rfl, (VL.le (vl rfl) (agg_cellsP _))⟩, ⟨⟨rfl, (VL.le (vl rfl) (one_cellsP _))⟩, ⟨⟨rfl, (VL.le (vl rfl) (one_cellsP _))⟩, trivial⟩⟩⟩⟩⟩⟩⟩ rfl) (xo rfl (fun _ => ok_loadA rfl agg51 sz51 (vl rfl) rfl rfl) (xo rfl (fun _ => ok_loadA rfl agg51 sz51 (vl rfl) rfl rfl) (xo rfl (fun _ => ok_call rfl (w_use) ⟨ke rfl, ke rfl, trivial⟩) (xo rfl (fun _ => ok_loadA rfl agg51 sz51 (vl rfl) rfl rfl) (xo rfl (fun _ => ok_build (rows := [(1, [_]), (2, _), (3, _), (4, _), (5, _), (6, [_]), (7, [_])]) rfl bl125 zo125 ⟨⟨rfl, (VL.le (vl rfl) (one_cellsP _))⟩, ⟨⟨rfl, (VL.le (vl rfl) (agg_cellsP _))⟩, ⟨⟨rfl, (VL.le (vl rfl) (agg_cellsP _))⟩, ⟨⟨rfl, (VL.le (vl rfl) (agg_cellsP _))⟩, ⟨⟨rfl, (VL.le (vl rfl) (agg_cellsP _))⟩, ⟨⟨rfl, (VL.le (vl rfl) (one_cellsP _))⟩, ⟨⟨rfl, (VL.le (vl rfl) (one_cellsP _))⟩, trivial⟩⟩⟩⟩⟩⟩⟩ rfl) ?_)))))))))
 iterate 4 refine xo rfl (fun _ => ok_loadA rfl agg51 sz51 (vl rfl) rfl rfl) ?_
 refine xo rfl (fun _ => ok_build (rows := [(1, [_]), (2, _), (3, _), (4, _), (5, _), (6, [_]), (7, [_])]) rfl bl125 zo125 ⟨⟨rfl, (VL.le (vl rfl) (one_cellsP _))⟩, ⟨⟨rfl, (VL.le (vl rfl) (agg_cellsP _))⟩, ⟨⟨rfl, (VL.le (vl rfl) (agg_cellsP _))⟩, ⟨⟨rfl, (VL.le (vl rfl) (agg_cellsP _))⟩, ⟨⟨rfl, (VL.le (vl rfl) (agg_cellsP _))⟩, ⟨⟨rfl, (VL.le (vl rfl) (one_cellsP _))⟩, ⟨⟨rfl, (VL.le (vl rfl) (one_cellsP _))⟩, trivial⟩⟩⟩⟩⟩⟩⟩ rfl) (xo rfl (fun _ => ok_call rfl (w_use) ⟨ke rfl, ke rfl, trivial⟩) (xo rfl (fun _ => ok_loadA rfl agg51 sz51 (vl rfl) rfl rfl) (xo rfl (fun _ => ok_loadA rfl agg51 sz51 (vl rfl) rfl rfl) (xo rfl (fun _ => ok_loadA rfl agg51 sz51 (vl rfl) rfl rfl) (xo rfl (fun _ => ok_build (rows := [(1, [_]), (2, _), (3, _), (4, _), (5, _), (6, [_]), (7, [_])]) rfl bl125 zo125 ⟨⟨rfl, (VL.le (vl rfl) (one_cellsP _))⟩, ⟨⟨rfl, (VL.le (vl rfl) (agg_cellsP _))⟩, ⟨⟨rfl, (VL.le (vl rfl) (agg_cellsP _))⟩, ⟨⟨rfl, (VL.le (vl rfl) (agg_cellsP _))⟩, ⟨⟨rfl, (VL.le (vl rfl) (agg_cellsP _))⟩, ⟨⟨rfl, (VL.le (vl rfl) (one_cellsP _))⟩, ⟨⟨rfl, (VL.le (vl rfl) (one_cellsP _))⟩, trivial⟩⟩⟩⟩⟩⟩⟩ rfl) (xo rfl (fun _ => ok_call rfl (w_use) ⟨ke rfl, ke rfl, trivial⟩) (xo rfl (fun _ => ok_loadA rfl agg51 sz51 (vl rfl) rfl rfl) (xo rfl (fun _ => ok_loadA rfl agg51 sz51 (vl rfl) rfl rfl) (xo rfl (fun _ => ok_loadA rfl agg51 sz51 (vl rfl) rfl rfl) (xo rfl (fun _ => ok_build (rows := [(1, [_]), (2, _), (3, _), (4, _), (5, _), (6, [_]), (7, [_])]) rfl bl125 zo125 ⟨⟨rfl, (VL.le (vl rfl) (one_cellsP _))⟩, ⟨⟨rfl, (VL.le (vl rfl) (agg_cellsP _))⟩, ⟨⟨rfl, (VL.le (vl rfl) (agg_cellsP _))⟩, ⟨⟨rfl, (VL.le (vl rfl) (agg_cellsP _))⟩, ⟨⟨rfl, (VL.le (vl rfl) (agg_cellsP _))⟩, ⟨⟨rfl, (VL.le (vl rfl) (one_cellsP _))⟩, ⟨⟨rfl, (VL.le (vl rfl) (one_cellsP _))⟩, trivial⟩⟩⟩⟩⟩⟩⟩ rfl) ?_))))))))))
 iterate 4 refine xo rfl (fun _ => ok_loadA rfl agg51 sz51 (vl rfl) rfl rfl) ?_
 refine xo rfl (fun _ => ok_build (rows := [(1, [_]), (2, _), (3, _), (4, _), (5, _), (6, [_]), (7, [_])]) rfl bl125 zo125 ⟨⟨rfl, (VL.le (vl rfl) (one_cellsP _))⟩, ⟨⟨rfl, (VL.le (vl rfl) (agg_cellsP _))⟩, ⟨⟨rfl, (VL.le (vl rfl) (agg_cellsP _))⟩, ⟨⟨rfl, (VL.le (vl rfl) (agg_cellsP _))⟩, ⟨⟨rfl, (VL.le (vl rfl) (agg_cellsP _))⟩, ⟨⟨rfl, (VL.le (vl rfl) (one_cellsP _))⟩, ⟨⟨rfl, (VL.le (vl rfl) (one_cellsP _))⟩, trivial⟩⟩⟩⟩⟩⟩⟩ rfl) (xo rfl (fun _ => ok_call rfl (w_use) ⟨ke rfl, ke rfl, trivial⟩) (xo rfl (fun _ => ok_loadA rfl agg51 sz51 (vl rfl) rfl rfl) (xo rfl (fun _ => ok_loadA rfl agg51 sz51 (vl rfl) rfl rfl) (xo rfl (fun _ => ok_loadA rfl agg51 sz51 (vl rfl) rfl rfl) (xo rfl (fun _ => ok_build (rows := [(1, [_]), (2, _), (3, _), (4, _), (5, _), (6, [_]), (7, [_])]) rfl bl125 zo125 ⟨⟨rfl, (VL.le (vl rfl) (one_cellsP _))⟩, ⟨⟨rfl, (VL.le (vl rfl) (agg_cellsP _))⟩, ⟨⟨rfl, (VL.le (vl rfl) (agg_cellsP _))⟩, ⟨⟨rfl, (VL.le (vl rfl) (agg_cellsP _))⟩, ⟨⟨rfl, (VL.le (vl rfl) (agg_cellsP _))⟩, ⟨⟨rfl, (VL.le (vl rfl) (one_cellsP _))⟩, ⟨⟨rfl, (VL.le (vl rfl) (one_cellsP _))⟩, trivial⟩⟩⟩⟩⟩⟩⟩ rfl) ?_)))))
 iterate 4 refine xo rfl (fun _ => ok_loadA rfl agg51 sz51 (vl rfl) rfl rfl) ?_
 refine xo rfl (fun _ => ok_build (rows := [(1, [_]), (2, _), (3, _), (4, _), (5, _), (6, [_]), (7, [_])]) rfl bl125 zo125 ⟨⟨rfl, (VL.le (vl rfl) (one_cellsP _))⟩, ⟨⟨rfl, (VL.le (vl rfl) (agg_cellsP _))⟩, ⟨⟨rfl, (VL.le (vl rfl) (agg_cellsP _))⟩, ⟨⟨rfl, (VL.le (vl rfl) (agg_cellsP _))⟩, ⟨⟨rfl, (VL.le (vl rfl) (agg_cellsP _))⟩, ⟨⟨rfl, (VL.le (vl rfl) (one_cellsP _))⟩, ⟨⟨rfl, (VL.le (vl rfl) (one_cellsP _))⟩, trivial⟩⟩⟩⟩⟩⟩⟩ rfl) (xo rfl (fun _ => ok_loadA rfl agg51 sz51 (vl rfl) rfl rfl) (xo rfl (fun _ => ok_loadA rfl agg51 sz51 (vl rfl) rfl rfl) (xo rfl (fun _ => ok_call rfl (w_use) ⟨ke rfl, ke rfl, trivial⟩) (xo rfl (fun _ => ok_call rfl (w_use) ⟨ke rfl, ke rfl, trivial⟩) (xo rfl (fun _ => ok_build (rows := [(1, [_]), (2, _), (3, _), (4, _), (5, _), (6, [_]), (7, [_])]) rfl bl125 zo125 ⟨⟨rfl, (VL.le (vl rfl) (one_cellsP _))⟩, ⟨⟨rfl, (VL.le (vl rfl) (agg_cellsP _))⟩, ⟨⟨rfl, (VL.le (vl rfl) (agg_cellsP _))⟩, ⟨⟨rfl, (VL.le (vl rfl) (agg_cellsP _))⟩, ⟨⟨rfl, (VL.le (vl rfl) (agg_cellsP _))⟩, ⟨⟨rfl, (VL.le (vl rfl) (one_cellsP _))⟩, ⟨⟨rfl, (VL.le (vl rfl) (one_cellsP _))⟩, trivial⟩⟩⟩⟩⟩⟩⟩ rfl) ?_)))))
 iterate 4 refine xo rfl (fun _ => ok_loadA rfl agg51 sz51 (vl rfl) rfl rfl) ?_
 refine xo rfl (fun _ => ok_build (rows := [(1, [_]), (2, _), (3, _), (4, _), (5, _), (6, [_]), (7, [_])]) rfl bl125 zo125 ⟨⟨rfl, (VL.le (vl rfl) (one_cellsP _))⟩, ⟨⟨rfl, (VL.le (vl rfl) (agg_cellsP _))⟩, ⟨⟨rfl, (VL.le (vl rfl) (agg_cellsP _))⟩, ⟨⟨rfl, (VL.le (vl rfl) (agg_cellsP _))⟩, ⟨⟨rfl, (VL.le (vl rfl) (agg_cellsP _))⟩, ⟨⟨rfl, (VL.le (vl rfl) (one_cellsP _))⟩, ⟨⟨rfl, (VL.le (vl rfl) (one_cellsP _))⟩, trivial⟩⟩⟩⟩⟩⟩⟩ rfl) (xo rfl (fun _ => ok_call rfl (w_use) ⟨ke rfl, ke rfl, trivial⟩) (xo rfl (fun _ => ok_loadA rfl agg51 sz51 (vl rfl) rfl rfl) (xo rfl (fun _ => ok_loadA rfl agg51 sz51 (vl rfl) rfl rfl) (xo rfl (fun _ => ok_loadA rfl agg51 sz51 (vl rfl) rfl rfl) (xo rfl (fun _ => ok_build (rows := [(1, [_]), (2, _), (3, _), (4, _), (5, _), (6, [_]), (7, [_])]) rfl bl125 zo125 ⟨⟨rfl, (VL.le (vl rfl) (one_cellsP _))⟩, ⟨⟨rfl, (VL.le (vl rfl) (agg_cellsP _))⟩, ⟨⟨rfl, (VL.le (vl rfl) (agg_cellsP _))⟩, ⟨⟨rfl, (VL.le (vl rfl) (agg_cellsP _))⟩, ⟨⟨rfl, (VL.le (vl rfl) (agg_cellsP _))⟩, ⟨⟨rfl, (VL.le (vl rfl) (one_cellsP _))⟩, ⟨⟨rfl, (VL.le (vl rfl) (one_cellsP _))⟩, trivial⟩⟩⟩⟩⟩⟩⟩ rfl) ?_)))))
 iterate 4 refine xo rfl (fun _ => ok_loadA rfl agg51 sz51 (vl rfl) rfl rfl) ?_
 refine xo rfl (fun _ => ok_build (rows := [(1, [_]), (2, _), (3, _), (4, _), (5, _), (6, [_]), (7, [_])]) rfl bl125 zo125 ⟨⟨rfl, (VL.le (vl rfl) (one_cellsP _))⟩, ⟨⟨rfl, (VL.le (vl rfl) (agg_cellsP _))⟩, ⟨⟨rfl, (VL.le (vl rfl) (agg_cellsP _))⟩, ⟨⟨rfl, (VL.le (vl rfl) (agg_cellsP _))⟩, ⟨⟨rfl, (VL.le (vl rfl) (agg_cellsP _))⟩, ⟨⟨rfl, (VL.le (vl rfl) (one_cellsP _))⟩, ⟨⟨rfl, (VL.le (vl rfl) (one_cellsP _))⟩, trivial⟩⟩⟩⟩⟩⟩⟩ rfl) ?_
 iterate 4 refine xo rfl (fun _ => ok_loadA rfl agg51 sz51 (vl rfl) rfl rfl) ?_
 refine xo rfl (fun _ => ok_build (rows := [(1, [_]), (2, _), (3, _), (4, _), (5, _), (6, [_]), (7, [_])]) rfl bl125 zo125 ⟨⟨rfl, (VL.le (vl rfl) (one_cellsP _))⟩, ⟨⟨rfl, (VL.le (vl rfl) (agg_cellsP _))⟩, ⟨⟨rfl, (VL.le (vl rfl) (agg_cellsP _))⟩, ⟨⟨rfl, (VL.le (vl rfl) (agg_cellsP _))⟩, ⟨⟨rfl, (VL.le (vl rfl) (agg_cellsP _))⟩, ⟨⟨rfl, (VL.le (vl rfl) (one_cellsP _))⟩, ⟨⟨rfl, (VL.le (vl rfl) (one_cellsP _))⟩, trivial⟩⟩⟩⟩⟩⟩⟩ rfl) ?_
 iterate 4 refine xo rfl (fun _ => ok_loadA rfl agg51 sz51 (vl rfl) rfl rfl) ?_
 refine xo rfl (fun _ => ok_build (rows := [(1, [_]), (2, _), (3, _), (4, _), (5, _), (6, [_]), (7, [_])]) rfl bl125 zo125 ⟨⟨rfl, (VL.le (vl rfl) (one_cellsP _))⟩, ⟨⟨rfl, (VL.le (vl rfl) (agg_cellsP _))⟩, ⟨⟨rfl, (VL.le (vl rfl) (agg_cellsP _))⟩, ⟨⟨rfl, (VL.le (vl rfl) (agg_cellsP _))⟩, ⟨⟨rfl, (VL.le (vl rfl) (agg_cellsP _))⟩, ⟨⟨rfl, (VL.le (vl rfl) (one_cellsP _))⟩, ⟨⟨rfl, (VL.le (vl rfl) (one_cellsP _))⟩, trivial⟩⟩⟩⟩⟩⟩⟩ rfl) ?_
 iterate 4 refine xo rfl (fun _ => ok_loadA rfl agg51 sz51 (vl rfl) rfl rfl) ?_
 refine xo rfl (fun _ => ok_build (rows := [(1, [_]), (2, _), (3, _), (4, _), (5, _), (6, [_]), (7, [_])]) rfl bl125 zo125 ⟨⟨rfl, (VL.le (vl rfl) (one_cellsP _))⟩, ⟨⟨rfl, (VL.le (vl rfl) (agg_cellsP _))⟩, ⟨⟨rfl, (VL.le (vl rfl) (agg_cellsP _))⟩, ⟨⟨rfl, (VL.le (vl rfl) (agg_cellsP _))⟩, ⟨⟨rfl, (VL.le (vl rfl) (agg_cellsP _))⟩, ⟨⟨rfl, (VL.le (vl rfl) (one_cellsP _))⟩, ⟨⟨rfl, (VL.le (vl rfl) (one_cellsP _))⟩, trivial⟩⟩⟩⟩⟩⟩⟩ rfl) (xo rfl (fun _ => ok_call rfl (w_use) ⟨ke rfl, ke rfl, trivial⟩) (xo rfl (fun _ => ok_loadA rfl agg51 sz51 (vl rfl) rfl rfl) (xo rfl (fun _ => ok_loadA rfl agg51 sz51 (vl rfl) rfl rfl) (xo rfl (fun _ => ok_loadA rfl agg51 sz51 (vl rfl) rfl rfl) (xo rfl (fun _ => ok_build (rows := [(1, [_]), (2, _), (3, _), (4, _), (5, _), (6, [_]), (7, [_])]) rfl bl125 zo125 ⟨⟨rfl, (VL.le (vl rfl) (one_cellsP _))⟩, ⟨⟨rfl, (VL.le (vl rfl) (agg_cellsP _))⟩, ⟨⟨rfl, (VL.le (vl rfl) (agg_cellsP _))⟩, ⟨⟨rfl, (VL.le (vl rfl) (agg_cellsP _))⟩, ⟨⟨rfl, (VL.le (vl rfl) (agg_cellsP _))⟩, ⟨⟨rfl, (VL.le (vl rfl) (one_cellsP _))⟩, ⟨⟨rfl, (VL.le (vl rfl) (one_cellsP _))⟩, trivial⟩⟩⟩⟩⟩⟩⟩ rfl) (Cx.ef 0 rfl rfl (by decide) (ef_buildM (xs := [.tmp 35, .tmp 40, .tmp 45, .tmp 50, .tmp 55, .tmp 60, .tmp 65, .tmp 70, .tmp 75, .tmp 80, .tmp 85, .tmp 90, .tmp 95, .tmp 100, .tmp 105, .tmp 110]) (rows := anyRows) rfl rfl (by decide) rfl rfl Try.underlying143 sz125 z125 rfl (by decide) ⟨⟨(by exact rfl), VL.le (vl rfl) (Pr.le_trans (agg_any rfl) (agg_cellsP _))⟩, ⟨⟨(by exact rfl), VL.le (vl rfl) (Pr.le_trans (agg_any rfl) (agg_cellsP _))⟩, ⟨⟨(by exact rfl), VL.le (vl rfl) (Pr.le_trans (agg_any rfl) (agg_cellsP _))⟩, ⟨⟨(by exact rfl), VL.le (vl rfl) (Pr.le_trans (agg_any rfl) (agg_cellsP _))⟩, ⟨⟨(by exact rfl), VL.le (vl rfl) (Pr.le_trans (agg_any rfl) (agg_cellsP _))⟩, ⟨⟨(by exact rfl), VL.le (vl rfl) (Pr.le_trans (agg_any rfl) (agg_cellsP _))⟩, ⟨⟨(by exact rfl), VL.le (vl rfl) (Pr.le_trans (agg_any rfl) (agg_cellsP _))⟩, ⟨⟨(by exact rfl), VL.le (vl rfl) (Pr.le_trans (agg_any rfl) (agg_cellsP _))⟩, ⟨⟨(by exact rfl), VL.le (vl rfl) (Pr.le_trans (agg_any rfl) (agg_cellsP _))⟩, ⟨⟨(by exact rfl), VL.le (vl rfl) (Pr.le_trans (agg_any rfl) (agg_cellsP _))⟩, ⟨⟨(by exact rfl), VL.le (vl rfl) (Pr.le_trans (agg_any rfl) (agg_cellsP _))⟩, ⟨⟨(by exact rfl), VL.le (vl rfl) (Pr.le_trans (agg_any rfl) (agg_cellsP _))⟩, ⟨⟨(by exact rfl), VL.le (vl rfl) (Pr.le_trans (agg_any rfl) (agg_cellsP _))⟩, ⟨⟨(by exact rfl), VL.le (vl rfl) (Pr.le_trans (agg_any rfl) (agg_cellsP _))⟩, ⟨⟨(by exact rfl), VL.le (vl rfl) (Pr.le_trans (agg_any rfl) (agg_cellsP _))⟩, ⟨⟨(by exact rfl), VL.le (vl rfl) (Pr.le_trans (agg_any rfl) (agg_cellsP _))⟩, trivial⟩⟩⟩⟩⟩⟩⟩⟩⟩⟩⟩⟩⟩⟩⟩⟩ (by decide) (by decide)) ?_))))))
 refine Cx.ef 0 rfl rfl (by decide) (ef_move rfl rfl (by decide) rfl (vl rfl)) ?_
 refine Cx.nil ⟨rfl, ?_⟩
 refine FinX.open_ 0 15 rfl rfl (fun v1 => ?_)
 refine FinX.done (AllC.cons (AllC.map _)) (Fin.go (wk1 15 rfl (Tr.seq (Tr.seq (Tr.openM 0 rfl fun b15 cap15 sp15 hv15 hg15 hm15 hs15 => ?_)))))
 subst hv15
 refine Tr.reg0 (cm rfl (co rfl (okb_len rfl Try.underlying143 ⟨_, rfl, andIs_is _ _⟩) (cm rfl (Ch.nil (Fin.go (Tr.block (Tr.loopw [(15, _), (113, _)] (kk2 rfl) (fun k : Nat => [(114, int ((k : Nat) : Int))]) (fun k : Nat => k ≤ (anyRows.length)) (fun k : Nat => (anyRows.length) - k) 0 (Nat.zero_le _) ⟨ke rfl, trivial⟩ ?_)))))))
 rintro k hle_k
 refine Tr.seq (Tr.reg0 (co rfl (ki rfl rfl rfl rfl) (Ch.nil (Fin.go (Tr.seq ?_)))))
 refine Tr.cn rfl ?_ ?_ <;> intro h1 q1
 have hk_k : k < (anyRows.length) := lt_of_dec h1
 have hk16 : k < 16 := hk_k
 refine Tr.skip (Fin.go (Tr.seq (Tr.block (Tr.seq (Tr.reg0 (cm rfl (cm rfl (Ch.nil (Fin.go (Tr.regT (tm rfl (tm rfl (tm rfl ?_)))))))))))))
 refine tp rfl (ok_add rfl (vl rfl) (vl rfl) ?hin) ?_; case hin => unfold InI; omega
 refine tp rfl (okp_indexSl rfl Try.underlying143 sz125 ⟨_, rfl, andIs_is _ _⟩ (vl rfl) (by omega) (by omega)) (tp rfl (okp_fieldAddr rfl fo125_0 (vl rfl)) ?_)
 refine TO.ef0 0 rfl rfl (ef_store rfl rfl (vl rfl) (VL.le (vl rfl) (one_any _)) sz3 rfl (by rw [List.length_append, flat_len any_len]; show _ ≤ 16 * 12 + _; omega) (put_any (any_at hk16 (by omega)))) ?_
 refine TO.nil (Fin.block (Fin.go (Tr.reg0 (cad rfl rfl rfl rfl (by omega) (cm rfl (Ch.nil (Fin.fam_same (k + 1) ⟨hk_k, by omega⟩ ⟨⟨_, rfl, int_succ k⟩, ke rfl, ke rfl, trivial⟩)))))))
 have he_k : k = (anyRows.length) := by have := ge_of_dec h1; omega
 subst he_k
 refine Tr.exit (Fin.then_exit (Fin.then_exit (Fin.block_here (Fin.go (Tr.seq ?_)))))
 refine Tr.frzS (sz := 12) anyRows 0 15 rfl rfl (andIs_is _ _) any_len hg15 hm15 (by rw [List.length_map]; exact hs15) ?_
 refine Tr.reg0 (cm rfl (cm rfl (Ch.nil (Fin.go (Tr.ret (Fin.ret1 rfl (OutW.bse _ _) rfl ?_))))))
 · exact andIs_le _ _
set_option maxRecDepth 20000 in
theorem w_Suite {code : Int}  : Fun Try.prog 66 [int code] (tup [agg anyRow, int (if 1 ≤ code ∧ code ≤ 16 then 0 else 8)]) := by
 refine Fun.of Try.func66 rfl rfl (by exact Nat.le_of_ble_eq_true rfl) fun M0 w0 => ?_
 have hL : anyRows.length = 16 := rfl
 refine Tr.seq (Tr.regT ?_)
 refine TO.alloc rfl rfl (by decide) rfl z125 zo125 (fun b1 => ?_)
 refine tm rfl (TO.nil (Fin.go (Tr.seq (Tr.reg0 (co rfl (ok_call rfl (w_Suites) trivial) (cm rfl (Ch.nil (Fin.go (Tr.seq (Tr.seq (Tr.reg0 (cm rfl (co rfl (ki rfl rfl rfl rfl) ?_)))))))))))))
 refine cm rfl ?_
 refine Ch.cs 8 rfl ?_ ?_ <;> intro h1 q1
 iterate 4 refine cnf h1 rfl ?_
 refine co rfl (kpt rfl rfl h1 rfl) (Ch.nil (Fin.go (Tr.cond rfl (fun _ => ?_) (fun h => nomatch h))))
 refine Tr.seq (Tr.regT (tp rfl (ok_build (rows := []) rfl bl125 zo125 trivial rfl) (TO.store_all 0 rfl rfl rfl (vl rfl) (VL.le (vl rfl) (agg_cellsP _)) rfl sz125 rfl rfl (tm rfl (TO.nil (Fin.go (wk2 2 3 rfl (Tr.ret (Fin.then_ret (Fin.retX2 rfl (RVal.cell 0 rfl rfl agg125 sz125 rfl (Pr.le_refl _)) (RVal.tmp rfl (Pr.le_refl _)) ?_))))))))))
 · exact tup_le ⟨agg_any rfl, int_eq (by rw [if_neg]; simp_all; omega), trivial⟩
 refine cym h1 rfl (cym h1 rfl (cy h1 rfl (ok_len rfl Try.underlying143 (vl rfl)) (cy h1 rfl (ki rfl rfl rfl rfl) (co rfl (kpf rfl rfl h1 rfl) (Ch.nil (Fin.go ?_))))))
 refine Tr.cn rfl ?_ ?_ <;> intro h2 q2
 refine Tr.seq (Tr.regT (tp rfl (ok_build (rows := []) rfl bl125 zo125 trivial rfl) (TO.store_all 0 rfl rfl rfl (vl rfl) (VL.le (vl rfl) (agg_cellsP _)) rfl sz125 rfl rfl (tm rfl (TO.nil (Fin.go (wk2 2 3 rfl (Tr.ret (Fin.then_ret (Fin.retX2 rfl (RVal.cell 0 rfl rfl agg125 sz125 rfl (Pr.le_refl _)) (RVal.tmp rfl (Pr.le_refl _)) ?_))))))))))
 · exact tup_le ⟨agg_any rfl, int_eq (by rw [if_neg]; simp_all), trivial⟩
 have hin : 1 ≤ code ∧ code ≤ 16 := by omega
 refine Tr.skip (Fin.go (Tr.seq (Tr.regT (tm rfl (tm rfl ?_)))))
 refine tp rfl (ok_sub rfl (vl rfl) (vl rfl) ?hin) ?_; case hin => unfold InI; omega
 refine tp rfl (ok_indexAddr rfl Try.underlying143 sz125 (vl rfl) (vl rfl) (by omega) (any_rows (by omega))) (tp rfl (ok_loadA rfl agg125 sz125 (vl rfl) rfl rfl) (TO.store_all 0 rfl rfl rfl (vl rfl) (VL.le (vl rfl) (agg_cellsP _)) rfl sz125 rfl rfl (tm rfl (TO.nil (Fin.go (wk2 2 3 rfl (Tr.ret (Fin.retX2 rfl (RVal.cell 0 rfl rfl agg125 sz125 rfl (Pr.le_refl _)) (RVal.tmp rfl (Pr.le_refl _)) ?_))))))))
 · exact tup_le ⟨Pr.le_refl _, int_eq (by rw [if_pos hin]), trivial⟩
end Go.Proofs.Ytflodcidhlmaaaa
namespace Go.Proofs.Ytflodcidhlmaaaa
open Go Go.RowKit Cp
set_option maxRecDepth 20000 in
theorem w_Shows {alg bits id : Int} {l : List Crt} (hf : ∀ c ∈ l, c.fits) : Fun Try.prog 44 [agg [int alg, int bits], int id, certs l] (bool (showsB alg bits id l)) := by
 refine Fun.of Try.func44 rfl rfl (by exact Nat.le_of_ble_eq_true rfl) fun M0 w0 => ?_
 refine Tr.lenm 2 rfl fun hlm_2 => (Tr.seq (Tr.reg0 (co rfl (ok_box rfl (VL.le (vl rfl) (agg_cellsP _))) (cm rfl (Ch.nil (Fin.go (Tr.seq (Tr.seq (Tr.reg0 (co rfl (ok_loadA rfl agg51 sz51 (vl rfl) rfl rfl) (co rfl (ok_call rfl (w_Valid) ⟨ke rfl, trivial⟩) (co rfl (ok_not rfl (vl rfl)) (cm rfl ?_)))))))))))))
 refine Ch.cs 12 rfl ?_ ?_ <;> intro h1 q1
 iterate 4 refine cnf h1 rfl ?_
 refine co rfl (kpt rfl rfl h1 rfl) (cm rfl (cnd rfl rfl (cnd rfl rfl (cnd rfl rfl (co rfl (kpt rfl rfl rfl rfl) (cm rfl (cnd rfl rfl (cnd rfl rfl (cnd rfl rfl (co rfl (kpt rfl rfl rfl rfl) (Ch.nil (Fin.go (wk4 1 2 3 27 rfl (Tr.cond rfl (fun _ => ?_) (fun h => nomatch h)))))))))))))))
 refine Tr.seq (Tr.reg0 (cm rfl (Ch.nil (Fin.go (Tr.ret (Fin.then_ret (Fin.ret1 rfl (OutW.bse _ _) rfl ?_)))))))
 · refine bool_eq ?_; rw [showsB_eq]; unfold ofB; simp_all; omega
 refine cy h1 rfl (kfa rfl fo51_0 rfl rfl) (cy h1 rfl (kl1 rfl one3 rfl) (cy h1 rfl (ok_call rfl (w_Kind) ⟨ke rfl, trivial⟩) (cy h1 rfl (ki rfl rfl rfl rfl) (co rfl (kpf rfl rfl h1 rfl) (cm rfl ?_)))))
 refine Ch.cs 18 rfl ?_ ?_ <;> intro h2 q2
 refine cnf h2 rfl (cnf h2 rfl (cnf h2 rfl (co rfl (kpt rfl rfl h2 rfl) (cm rfl (cnd rfl rfl (cnd rfl rfl (cnd rfl rfl (co rfl (kpt rfl rfl rfl rfl) (Ch.nil (Fin.go (wk4 1 2 3 27 rfl (Tr.cond rfl (fun _ => ?_) (fun h => nomatch h)))))))))))))
 refine Tr.seq (Tr.reg0 (cm rfl (Ch.nil (Fin.go (Tr.ret (Fin.then_ret (Fin.ret1 rfl (OutW.bse _ _) rfl ?_)))))))
 · refine bool_eq ?_; rw [showsB_eq]; unfold ofB; simp_all
 refine cym h2 rfl (cy h2 rfl (ok_call rfl (w_CKey) ⟨ke rfl, trivial⟩) (cy h2 rfl (ok_not rfl (vl rfl)) (co rfl (kpf rfl rfl h2 rfl) (cm rfl ?_))))
 refine Ch.cs 23 rfl ?_ ?_ <;> intro h3 q3
 refine cnf h3 rfl (cnf h3 rfl (cnf h3 rfl (co rfl (kpt rfl rfl h3 rfl) (Ch.nil (Fin.go (wk4 1 2 3 27 rfl (Tr.cond rfl (fun _ => ?_) (fun h => nomatch h))))))))
 refine Tr.seq (Tr.reg0 (cm rfl (Ch.nil (Fin.go (Tr.ret (Fin.then_ret (Fin.ret1 rfl (OutW.bse _ _) rfl ?_)))))))
 · refine bool_eq ?_; rw [showsB_eq]; unfold ofB; simp_all
 refine cym h3 rfl (cy h3 rfl (ok_lenm rfl Try.underlying53 (vl rfl)) (cy h3 rfl (ki rfl rfl rfl rfl) (co rfl (kpf rfl rfl h3 rfl) (Ch.nil (Fin.go (wk4 1 2 3 27 rfl ?_))))))
 refine Tr.cn rfl ?_ ?_ <;> intro h4 q4
 refine Tr.seq (Tr.reg0 (cm rfl (Ch.nil (Fin.go (Tr.ret (Fin.then_ret (Fin.ret1 rfl (OutW.bse _ _) rfl ?_)))))))
 · refine bool_eq ?_; rw [showsB_eq]; unfold ofB; simp_all; omega
 refine Tr.skip (Fin.go (Tr.seq (Tr.seq (Tr.reg0 (cm rfl (co rfl (ok_lenm rfl Try.underlying53 (vl rfl)) (cm rfl (Ch.nil (Fin.go (Tr.block (Tr.loopw [(1, _), (2, _), (3, _), (28, _), (29, _)] (kk5 rfl) (fun k : Nat => [(30, int ((k : Nat) : Int))]) (fun k : Nat => k ≤ (l).length ∧ (∀ j y, j < k → l[j]? = some y → (!validB y) = false)) (fun k : Nat => (l).length - k) 0 (⟨Nat.zero_le _, fun j y hj => absurd hj (by omega)⟩) ⟨ke rfl, trivial⟩ ?_)))))))))))
 rintro k ⟨hle_k, hinv_k⟩
 refine Tr.seq (Tr.reg0 (co rfl (ki rfl rfl rfl rfl) (Ch.nil (Fin.go (Tr.seq ?_)))))
 refine Tr.cn rfl ?_ ?_ <;> intro h5 q5
 have hk_k : k < (l).length := lt_of_dec h5
 obtain ⟨c, hx_k⟩ := at_ hk_k
 have hcf := hf c (List.mem_of_getElem? hx_k)
 refine Tr.skip (Fin.go (Tr.seq (Tr.block (Tr.seq (Tr.regT (tp rfl (ok_indexAddr rfl Try.underlying53 sz91 (vl rfl) (vl rfl) (by omega) (by exact row_at (by assumption))) ?_))))))
 refine tp rfl (ok_loadA rfl agg91 sz91 (vl rfl) rfl rfl) ?_
 refine TO.alloc rfl rfl (by decide) rfl z91 zo91 (fun b1 => ?_)
 refine TO.store_all 0 rfl rfl rfl (vl rfl) (VL.le (vl rfl) (agg_cellsP _)) rfl sz91 rfl rfl (TO.freeze 0 8 rfl rfl (TO.nil (Fin.go (Tr.seq (Tr.reg0 (co rfl (ok_loadA rfl agg91 sz91 (vl rfl) rfl rfl) (co rfl (ok_call rfl (w_CCheck hcf) ⟨ke rfl, trivial⟩) (co rfl (ki rfl rfl rfl rfl) (Ch.nil (Fin.go (wk7 1 2 3 28 29 30 36 rfl ?_)))))))))))
 refine Tr.cn rfl ?_ ?_ <;> intro h6 q6
 refine Tr.seq (Tr.reg0 (cm rfl (Ch.nil (Fin.go (Tr.ret (Fin.block_ret (Fin.then_ret (Fin.then_ret (Fin.block_ret (Fin.then_ret (Fin.ret1 rfl (OutW.bse _ _) rfl ?_)))))))))))
 · refine bool_eq ?_; rw [showsB_eq]; unfold ofB; rw [all_hit (p := validB) hx_k (by simp_all)]; simp
 refine Tr.skip (Fin.block (Fin.go (Tr.reg0 (cad rfl rfl rfl rfl (by omega) (cm rfl (Ch.nil (Fin.fam_same (k + 1) ⟨⟨hk_k, step_no (p := fun c => !validB c) hx_k (by simp_all) hinv_k⟩, by omega⟩ ⟨⟨_, rfl, int_succ k⟩, ke rfl, ke rfl, ke rfl, ke rfl, ke rfl, trivial⟩)))))))
 have he_k : k = (l).length := by have := ge_of_dec h5; omega
 subst he_k
 have hall := all_end hinv_k
 refine Tr.exit (Fin.then_exit (Fin.then_exit (Fin.block_here (Fin.go (Tr.seq (Tr.reg1 mixed (by kernel_rfl) (cm rfl (co rfl (ok_lenm rfl Try.underlying53 (vl rfl)) (co rfl (ki rfl rfl rfl rfl) (cm rfl ?_))))))))))
 refine Ch.cs 41 rfl ?_ ?_ <;> intro h7 q7
 iterate 7 refine cnf h7 rfl ?_
 iterate 6 refine cu rfl ?_
 refine cnf h7 rfl (co rfl (kpt rfl rfl h7 rfl) (cm rfl (Ch.nil (Fin.go (wk1 6 rfl (Tr.ret (Fin.ret1 rfl (OutW.bse _ _) rfl ?_)))))))
 · refine bool_eq ?_; rw [showsB_eq]; unfold ofB; rw [hall, headB_nil (by simp_all)]; simp_all
 obtain ⟨c0, hc0⟩ := at_ (l := l) (k := 0) (by have := h7; simp at this; exact List.length_pos_iff.2 this)
 refine cym h7 rfl ?_
 refine cy h7 rfl (ok_indexAddr rfl Try.underlying53 sz91 (vl rfl) (vl rfl) (by omega) (row_at (k := 0) hc0)) ?_
 refine cy h7 rfl (kfa rfl fo91_3 rfl rfl) (cy h7 rfl (ok_loadA rfl agg51 sz51 (vl rfl) rfl rfl) (cy h7 rfl (ok_loadA rfl agg51 sz51 (vl rfl) rfl rfl) (cy h7 rfl (ok_eq51 rfl (vl rfl) (vl rfl)) (cym h7 rfl ?_))))
 refine Ch.cs 48 rfl ?_ ?_ <;> intro h8 q8
 refine cym h8 rfl ?_
 refine cy h8 rfl (ok_indexAddr rfl Try.underlying53 sz91 (vl rfl) (vl rfl) (by omega) (row_at (k := 0) hc0)) ?_
 refine cy h8 rfl (kfa rfl fo91_4 rfl rfl) (cy h8 rfl (kl1 rfl one3 rfl) (cym h8 rfl (cy h8 rfl (ki rfl rfl rfl rfl) (cy h7 rfl (kpt rfl rfl h8 rfl) (co rfl (kpf rfl rfl h7 rfl) (cm rfl (Ch.nil (Fin.go (wk1 6 rfl (Tr.ret (Fin.ret1 rfl (OutW.bse _ _) rfl ?_)))))))))))
 · refine bool_eq ?_; rw [showsB_eq]; unfold ofB; rw [hall, headB_at hc0]; clear hall hinv_k hf hc0; simp_all; omega
 iterate 6 refine cnt h8 rfl ?_
 refine cy h7 rfl (kpf rfl rfl h8 rfl) (co rfl (kpf rfl rfl h7 rfl) (cm rfl (Ch.nil (Fin.go (wk1 6 rfl (Tr.ret (Fin.ret1 rfl (OutW.bse _ _) rfl ?_)))))))
 · refine bool_eq ?_; rw [showsB_eq]; unfold ofB; rw [hall, headB_at hc0]; clear hall hinv_k hf hc0; simp_all
set_option maxRecDepth 20000 in
theorem w_ascends {l : List Int}  : Fun Try.prog 43 [ints l] (bool (ascB l)) := by
 refine Fun.of Try.func43 rfl rfl (by exact Nat.le_of_ble_eq_true rfl) fun M0 w0 => ?_
 refine Tr.lenm 0 rfl fun hlm_0 => (Tr.seq (Tr.reg0 (cm rfl (Ch.nil (Fin.go (Tr.seq (Tr.seq (Tr.reg0 (cm rfl (co rfl (ok_lenm rfl Try.underlying22 (vl rfl)) (cm rfl (Ch.nil (Fin.go (Tr.block ?_))))))))))))))
 refine Tr.loopw [(0, _), (5, _)] (kk2 rfl) (fun k : Nat => [(6, int ((k : Nat) : Int))]) (fun k : Nat => k ≤ (l).length ∧ (∀ j, j < k → ascAt l j = true)) (fun k : Nat => (l).length - k) 0 (⟨Nat.zero_le _, fun j hj => absurd hj (by omega)⟩) ⟨ke rfl, trivial⟩ ?_
 rintro k ⟨hle_k, hinv_k⟩
 refine Tr.seq (Tr.reg0 (co rfl (ki rfl rfl rfl rfl) (Ch.nil (Fin.go (Tr.seq ?_)))))
 refine Tr.cn rfl ?_ ?_ <;> intro h1 q1
 have hk_k : k < (l).length := lt_of_dec h1
 obtain ⟨x, hx_k⟩ := at_ hk_k
 have hg := getD_at (d := (0 : Int)) hx_k
 refine Tr.skip (Fin.go (Tr.seq (Tr.block (Tr.seq (Tr.reg0 (cm rfl (cm rfl (Ch.nil (Fin.go (Tr.seq (Tr.reg1 mixed (by kernel_rfl) (cm rfl (co rfl (ki rfl rfl rfl rfl) ?_)))))))))))))
 refine cm rfl ?_
 refine Ch.cs 11 rfl ?_ ?_ <;> intro h2 q2
 have hk0 : 0 < k := by simpa using h2
 obtain ⟨y, hy⟩ := at_ (l := l) (k := k - 1) (by omega)
 have hgy := getD_at (d := (0 : Int)) hy
 refine cym h2 rfl (cym h2 rfl ?_)
 refine cy h2 rfl (ok_sub rfl (vl rfl) (vl rfl) ?hin) ?_; case hin => unfold InI; omega
 refine cy h2 rfl (ok_indexAddr rfl Try.underlying22 sz3 (vl rfl) (vl rfl) (by omega) (by rw [show ((k : Nat) : Int) - 1 = ((k - 1 : Nat) : Int) by omega]; exact row_at hy)) ?_
 refine cy h2 rfl (kl1 rfl one3 rfl) (cym h2 rfl (cym h2 rfl (cy h2 rfl (ok_indexAddr rfl Try.underlying22 sz3 (vl rfl) (vl rfl) (by omega) (row_at hx_k)) (cy h2 rfl (kl1 rfl one3 rfl) (cy h2 rfl (ki rfl rfl rfl rfl) (co rfl (kpt rfl rfl h2 rfl) (Ch.nil (Fin.go (wk4 0 5 6 22 rfl ?_)))))))))
 refine Tr.cn rfl ?_ ?_ <;> intro h3 q3
 refine Tr.seq (Tr.reg0 (cm rfl (Ch.nil (Fin.go (Tr.ret (Fin.block_ret (Fin.then_ret (Fin.then_ret (Fin.block_ret (Fin.then_ret (Fin.ret1 rfl (OutW.bse _ _) rfl ?_)))))))))))
 · refine bool_eq ?_; unfold ascB; exact (allI_hit (p := ascAt l) (k := k) (by omega) (by unfold ascAt; rw [hg, hgy]; simp_all; omega)).symm
 refine Tr.skip (Fin.block (Fin.go (Tr.reg0 (cad rfl rfl rfl rfl (by omega) (cm rfl (Ch.nil ?_))))))
 exact Fin.fam_same (k + 1) ⟨⟨hk_k, allI_step hinv_k (by unfold ascAt; rw [hg, hgy]; simp_all)⟩, by omega⟩ ⟨⟨_, rfl, int_succ k⟩, ke rfl, ke rfl, trivial⟩
 iterate 10 refine cnt h2 rfl ?_
 refine co rfl (kpf rfl rfl h2 rfl) (Ch.nil (Fin.go (wk4 0 5 6 22 rfl (Tr.cond rfl (fun h => nomatch h) (fun _ => ?_)))))
 refine Tr.skip (Fin.block (Fin.go (Tr.reg0 (cad rfl rfl rfl rfl (by omega) (cm rfl (Ch.nil ?_))))))
 exact Fin.fam_same (k + 1) ⟨⟨hk_k, allI_step hinv_k (by unfold ascAt; rw [hg]; simp_all)⟩, by omega⟩ ⟨⟨_, rfl, int_succ k⟩, ke rfl, ke rfl, trivial⟩
 have he_k : k = (l).length := by have := ge_of_dec h1; omega
 subst he_k
 refine Tr.exit (Fin.then_exit (Fin.then_exit (Fin.block_here (Fin.go (Tr.seq (Tr.reg0 (cm rfl (Ch.nil (Fin.go (Tr.ret (Fin.ret1 rfl (OutW.bse _ _) rfl ?_)))))))))))
 · refine bool_eq ?_; unfold ascB; exact (allI_end hinv_k).symm
set_option maxRecDepth 20000 in
theorem w_hash {n : Int}  : Fun Try.prog 49 [int n] (bool (hashB n)) := by
 refine Fun.of Try.func49 rfl rfl (by exact Nat.le_of_ble_eq_true rfl) fun M0 w0 => ?_
 refine Tr.seq (Tr.reg0 (cm rfl (Ch.nil (Fin.go (Tr.seq (Tr.reg0 (cm rfl (co rfl (ok_call rfl (w_Kind) ⟨ke rfl, trivial⟩) (co rfl (ki rfl rfl rfl rfl) (cm rfl (Ch.nil (Fin.go (Tr.ret (Fin.ret1 rfl (OutW.bse _ _) rfl ?_))))))))))))))
 · exact Pr.le_refl _
theorem e_hash : Entry Try.prog 49 := ⟨_, Try.func49, rfl, rfl⟩
set_option maxRecDepth 20000 in
theorem w_suites {l : List Int}  : Fun Try.prog 42 [ints l] (bool (suitesB l)) := by
 refine Fun.of Try.func42 rfl rfl (by exact Nat.le_of_ble_eq_true rfl) fun M0 w0 => ?_
 refine Tr.lenm 0 rfl fun hlm_0 => (Tr.seq (Tr.reg0 (cm rfl (Ch.nil (Fin.go (Tr.seq (Tr.seq (Tr.reg0 (cm rfl (co rfl (ok_lenm rfl Try.underlying22 (vl rfl)) (cm rfl (Ch.nil (Fin.go (Tr.block ?_))))))))))))))
 refine Tr.loopw [(0, _), (7, _), (8, _)] (kk3 rfl) (fun k : Nat => [(9, int ((k : Nat) : Int))]) (fun k : Nat => k ≤ (l).length ∧ (∀ j, j < k → suiteAt l j = true)) (fun k : Nat => (l).length - k) 0 (⟨Nat.zero_le _, fun j hj => absurd hj (by omega)⟩) ⟨ke rfl, trivial⟩ ?_
 rintro k ⟨hle_k, hinv_k⟩
 refine Tr.seq (Tr.reg0 (co rfl (ki rfl rfl rfl rfl) (Ch.nil (Fin.go (Tr.seq ?_)))))
 refine Tr.cn rfl ?_ ?_ <;> intro h1 q1
 have hk_k : k < (l).length := lt_of_dec h1
 obtain ⟨x, hx_k⟩ := at_ hk_k
 have hg := getD_at (d := (0 : Int)) hx_k
 refine Tr.skip (Fin.go (Tr.seq (Tr.block (Tr.seq (Tr.reg0 (cm rfl (co rfl (ok_indexAddr rfl Try.underlying22 sz3 (vl rfl) (vl rfl) (by omega) (by exact row_at (by assumption))) ?_)))))))
 refine co rfl (kl1 rfl one3 rfl) (cm rfl (cm rfl (Ch.nil (Fin.go (Tr.seq (Tr.regT (tm rfl (tp rfl (ok_call rfl (w_Suite) ⟨ke rfl, trivial⟩) (tm rfl (tp rfl (ok_extract rfl (vl rfl) rfl) (tp rfl (ok_extract rfl (vl rfl) rfl) ?_)))))))))))
 refine TO.alloc rfl rfl (by decide) rfl z125 zo125 (fun b1 => ?_)
 refine TO.store_all 0 rfl rfl rfl (vl rfl) (VL.le (vl rfl) (agg_cellsP _)) rfl sz125 rfl rfl (TO.freeze 0 5 rfl rfl (tm rfl (TO.nil (Fin.go (wk7 0 3 4 6 7 8 9 rfl (Tr.seq (Tr.reg0 (cm rfl (co rfl (ki rfl rfl rfl rfl) (cm rfl ?_))))))))))
 refine Ch.cs 21 rfl ?_ ?_ <;> intro h2 q2
 have hnin : ¬ (1 ≤ x ∧ x ≤ 16) := by intro hh; rw [if_pos hh] at h2; exact absurd h2 (by decide)
 iterate 5 refine cnf h2 rfl ?_
 refine co rfl (kpt rfl rfl h2 rfl) (Ch.nil (Fin.go (wk5 0 7 8 9 27 rfl (Tr.cond rfl (fun _ => ?_) (fun h => nomatch h)))))
 refine Tr.seq (Tr.reg0 (cm rfl (Ch.nil (Fin.go (Tr.ret (Fin.block_ret (Fin.then_ret (Fin.then_ret (Fin.block_ret (Fin.then_ret (Fin.ret1 rfl (OutW.bse _ _) rfl ?_)))))))))))
 · refine bool_eq ?_; unfold suitesB; exact (allI_hit (p := suiteAt l) (k := k) (by omega) (by unfold suiteAt; rw [hg]; rw [decide_eq_false hnin]; rfl)).symm
 have hin : 1 ≤ x ∧ x ≤ 16 := by refine Decidable.byContradiction fun hh => ?_; rw [if_neg hh] at h2; exact absurd h2 (by decide)
 refine cym h2 rfl (cym h2 rfl ?_)
 refine cy h2 rfl (ok_sliceTo rfl Try.underlying22 sz3 (vl rfl) (vl rfl) (by omega) (by simp; omega)) ?_
 refine cym h2 rfl ?_
 refine cy h2 rfl (ok_call rfl (w_ContainsI (l := l.take k) (v := x)) ⟨⟨_, rfl, Pr.le_of_eq (by rw [← List.map_take, Int.toNat_natCast])⟩, ke rfl, trivial⟩) ?_
 refine co rfl (kpf rfl rfl h2 rfl) (Ch.nil (Fin.go (wk5 0 7 8 9 27 rfl ?_)))
 refine Tr.cn rfl ?_ ?_ <;> intro h3 q3
 refine Tr.seq (Tr.reg0 (cm rfl (Ch.nil (Fin.go (Tr.ret (Fin.block_ret (Fin.then_ret (Fin.then_ret (Fin.block_ret (Fin.then_ret (Fin.ret1 rfl (OutW.bse _ _) rfl ?_)))))))))))
 · refine bool_eq ?_; unfold suitesB; exact (allI_hit (p := suiteAt l) (k := k) (by omega) (by unfold suiteAt; rw [hg]; rw [decide_eq_true hin]; simp_all)).symm
 refine Tr.skip (Fin.block (Fin.go (Tr.reg0 (cad rfl rfl rfl rfl (by omega) (cm rfl (Ch.nil ?_))))))
 exact Fin.fam_same (k + 1) ⟨⟨hk_k, allI_step hinv_k (by unfold suiteAt; rw [hg]; rw [decide_eq_true hin]; simp_all)⟩, by omega⟩ ⟨⟨_, rfl, int_succ k⟩, ke rfl, ke rfl, ke rfl, trivial⟩
 have he_k : k = (l).length := by have := ge_of_dec h1; omega
 subst he_k
 refine Tr.exit (Fin.then_exit (Fin.then_exit (Fin.block_here (Fin.go (Tr.seq (Tr.reg0 (cm rfl (Ch.nil (Fin.go (Tr.ret (Fin.ret1 rfl (OutW.bse _ _) rfl ?_)))))))))))
 · refine bool_eq ?_; unfold suitesB; exact (allI_end hinv_k).symm
set_option maxRecDepth 20000 in
theorem w_EC11 {p : Int → Bool} {n : Int}  : Fun Try.prog 46 [int n, ref [clo Try.prog (fun x : Int => [int x]) (fun x => bool (p x))]] (bool (!p n)) := by
 refine Fun.of Try.func46 rfl rfl (by exact Nat.le_of_ble_eq_true rfl) fun M0 w0 => ?_
 refine Tr.seq (Tr.reg0 (cm rfl (Ch.nil (Fin.go (Tr.seq (Tr.reg0 (co rfl (kl1 rfl one61 rfl) (cm rfl (co rfl (ok_callc n rfl (vl rfl) ⟨ke rfl, trivial⟩) (co rfl (ok_not rfl (vl rfl)) (cm rfl (Ch.nil (Fin.go (Tr.ret ?_))))))))))))))
 refine Fin.ret1 rfl (OutW.bse _ _) rfl ?_
 · exact Pr.le_refl _
theorem e_EC11 : Entry Try.prog 46 := ⟨_, Try.func46, rfl, rfl⟩
set_option maxRecDepth 20000 in
theorem w_EC1 {p : Int → Bool}  : Fun Try.prog 45 [clo Try.prog (fun x : Int => [int x]) (fun x => bool (p x))] (clo Try.prog (fun x : Int => [int x]) (fun x => bool (!p x))) := by
 refine Fun.of Try.func45 rfl rfl (by exact Nat.le_of_ble_eq_true rfl) fun M0 w0 => ?_
 refine Tr.seq (Tr.reg0 (co rfl (ok_box rfl (VL.le (vl rfl) (one_cellsP _))) (cm rfl (Ch.nil (Fin.go (Tr.seq (Tr.reg0 (co rfl (ok_makeFunc rfl rfl) (cm rfl (Ch.nil (Fin.go (Tr.ret (Fin.ret1 rfl (OutW.bse _ _) rfl ?_)))))))))))))
 · exact fn_le_clo e_EC11 (fun x => w_EC11 (p := p) (n := x))
theorem e_EC1 : Entry Try.prog 45 := ⟨_, Try.func45, rfl, rfl⟩
set_option maxRecDepth 20000 in
set_option maxHeartbeats 1000000 in
theorem w_ECheck {e : Ept} (hf : e.fits) : Fun Try.prog 28 [agg (rowEp e)] (int (if eptB e then 0 else 19)) := by
 refine Fun.of Try.func28 rfl rfl (by exact Nat.le_of_ble_eq_true rfl) fun M0 w0 => ?_
 refine Tr.seq (Tr.reg0 (co rfl (ok_box rfl (VL.le (vl rfl) (agg_cellsP _))) (cm rfl (Ch.nil (Fin.go (Tr.seq (Tr.seq (Tr.reg0 (co rfl (kfa rfl fo35_0 rfl rfl) (co rfl (kl1 rfl one9 rfl) (co rfl (ok_call rfl (w_Word hf.name) ⟨ke rfl, trivial⟩) (co rfl (ok_not rfl (vl rfl)) (cm rfl ?_)))))))))))))
 refine Ch.cs 10 rfl ?_ ?_ <;> intro h1 q1
 refine cnf h1 rfl (cnf h1 rfl (cnf h1 rfl (co rfl (kpt rfl rfl h1 rfl) (cm rfl ?_))))
 iterate 5 refine cnd rfl rfl ?_
 refine co rfl (kpt rfl rfl rfl rfl) (cm rfl (cnd rfl rfl (cnd rfl rfl (cnd rfl rfl (co rfl (kpt rfl rfl rfl rfl) (cm rfl ?_))))))
 iterate 4 refine cnd rfl rfl ?_
 refine co rfl (kpt rfl rfl rfl rfl) (Ch.nil (Fin.go (wk2 1 32 rfl (Tr.cond rfl (fun _ => ?_) (fun h => nomatch h)))))
 refine Tr.seq (Tr.reg0 (cm rfl (Ch.nil (Fin.go (Tr.ret (Fin.then_ret (Fin.ret1 rfl (OutW.bse _ _) rfl ?_)))))))
 · refine int_eq ?_; unfold eptB; simp_all
 refine cy h1 rfl (kfa rfl fo35_1 rfl rfl) (cy h1 rfl (kl1 rfl one3 rfl) (cy h1 rfl (ki rfl rfl rfl rfl) (co rfl (kpf rfl rfl h1 rfl) (cm rfl ?_))))
 refine Ch.cs 15 rfl ?_ ?_ <;> intro h2 q2
 iterate 5 refine cnf h2 rfl ?_
 refine co rfl (kpt rfl rfl h2 rfl) (cm rfl (cnd rfl rfl (cnd rfl rfl (cnd rfl rfl (co rfl (kpt rfl rfl rfl rfl) (cm rfl ?_))))))
 iterate 4 refine cnd rfl rfl ?_
 refine co rfl (kpt rfl rfl rfl rfl) (Ch.nil (Fin.go (wk2 1 32 rfl (Tr.cond rfl (fun _ => ?_) (fun h => nomatch h)))))
 refine Tr.seq (Tr.reg0 (cm rfl (Ch.nil (Fin.go (Tr.ret (Fin.then_ret (Fin.ret1 rfl (OutW.bse _ _) rfl ?_)))))))
 · refine int_eq ?_; unfold eptB; simp_all; omega
 refine cy h2 rfl (kfa rfl fo35_1 rfl rfl) (cy h2 rfl (kl1 rfl one3 rfl) (cy h2 rfl (kfa rfl fo35_2 rfl rfl) (cy h2 rfl (kl1 rfl one3 rfl) (cy h2 rfl (ki rfl rfl rfl rfl) (co rfl (kpf rfl rfl h2 rfl) (cm rfl ?_))))))
 refine Ch.cs 22 rfl ?_ ?_ <;> intro h3 q3
 refine cnf h3 rfl (cnf h3 rfl (cnf h3 rfl (co rfl (kpt rfl rfl h3 rfl) (cm rfl ?_))))
 iterate 4 refine cnd rfl rfl ?_
 refine co rfl (kpt rfl rfl rfl rfl) (Ch.nil (Fin.go (wk2 1 32 rfl (Tr.cond rfl (fun _ => ?_) (fun h => nomatch h)))))
 refine Tr.seq (Tr.reg0 (cm rfl (Ch.nil (Fin.go (Tr.ret (Fin.then_ret (Fin.ret1 rfl (OutW.bse _ _) rfl ?_)))))))
 · refine int_eq ?_; unfold eptB; simp_all; omega
 refine cy h3 rfl (kfa rfl fo35_2 rfl rfl) (cy h3 rfl (kl1 rfl one3 rfl) (cy h3 rfl (ki rfl rfl rfl rfl) (co rfl (kpf rfl rfl h3 rfl) (cm rfl ?_))))
 refine Ch.cs 27 rfl ?_ ?_ <;> intro h4 q4
 iterate 4 refine cnf h4 rfl ?_
 refine co rfl (kpt rfl rfl h4 rfl) (Ch.nil (Fin.go (wk2 1 32 rfl (Tr.cond rfl (fun _ => ?_) (fun h => nomatch h)))))
 refine Tr.seq (Tr.reg0 (cm rfl (Ch.nil (Fin.go (Tr.ret (Fin.then_ret (Fin.ret1 rfl (OutW.bse _ _) rfl ?_)))))))
 · refine int_eq ?_; unfold eptB; simp_all; omega
 refine cy h4 rfl (kfa rfl fo35_3 rfl rfl) (cy h4 rfl (kl1 rfl one22 rfl) (cy h4 rfl (ok_call rfl (w_suites) ⟨ke rfl, trivial⟩) (cy h4 rfl (ok_not rfl (vl rfl)) (co rfl (kpf rfl rfl h4 rfl) (Ch.nil (Fin.go (wk2 1 32 rfl ?_)))))))
 refine Tr.cn rfl ?_ ?_ <;> intro h5 q5
 refine Tr.seq (Tr.reg0 (cm rfl (Ch.nil (Fin.go (Tr.ret (Fin.then_ret (Fin.ret1 rfl (OutW.bse _ _) rfl ?_)))))))
 · refine int_eq ?_; unfold eptB; simp_all
 refine Tr.skip (Fin.go (Tr.seq (Tr.seq (Tr.reg0 (co rfl (kfa rfl fo35_5 rfl rfl) (co rfl (kl1 rfl one33 rfl) (co rfl (ok_lenm rfl Try.underlying33 (vl rfl)) (co rfl (ki rfl rfl rfl rfl) (cm rfl ?_)))))))))
 refine Ch.cs 37 rfl ?_ ?_ <;> intro h6 q6
 iterate 4 refine cnf h6 rfl ?_
 refine co rfl (kpt rfl rfl h6 rfl) (cm rfl ?_)
 iterate 4 refine cnd rfl rfl ?_
 refine co rfl (kpt rfl rfl rfl rfl) (cm rfl ?_)
 iterate 4 refine cnd rfl rfl ?_
 refine co rfl (kpt rfl rfl rfl rfl) (Ch.nil (Fin.go (wk2 1 54 rfl (Tr.cond rfl (fun _ => ?_) (fun h => nomatch h)))))
 refine Tr.seq (Tr.reg0 (cm rfl (Ch.nil (Fin.go (Tr.ret (Fin.then_ret (Fin.ret1 rfl (OutW.bse _ _) rfl ?_)))))))
 · refine int_eq ?_; unfold eptB; simp_all; omega
 refine cy h6 rfl (kfa rfl fo35_6 rfl rfl) (cy h6 rfl (kl1 rfl one22 rfl) (cy h6 rfl (ok_lenm rfl Try.underlying22 (vl rfl)) (cy h6 rfl (ki rfl rfl rfl rfl) (co rfl (kpf rfl rfl h6 rfl) (cm rfl ?_)))))
 refine Ch.cs 43 rfl ?_ ?_ <;> intro h7 q7
 iterate 4 refine cnf h7 rfl ?_
 refine co rfl (kpt rfl rfl h7 rfl) (cm rfl ?_)
 iterate 4 refine cnd rfl rfl ?_
 refine co rfl (kpt rfl rfl rfl rfl) (Ch.nil (Fin.go (wk2 1 54 rfl (Tr.cond rfl (fun _ => ?_) (fun h => nomatch h)))))
 refine Tr.seq (Tr.reg0 (cm rfl (Ch.nil (Fin.go (Tr.ret (Fin.then_ret (Fin.ret1 rfl (OutW.bse _ _) rfl ?_)))))))
 · refine int_eq ?_; unfold eptB; simp_all; omega
 refine cy h7 rfl (kfa rfl fo35_6 rfl rfl) (cy h7 rfl (kl1 rfl one22 rfl) (cy h7 rfl (ok_call rfl (w_ascends) ⟨ke rfl, trivial⟩) (cy h7 rfl (ok_not rfl (vl rfl)) (co rfl (kpf rfl rfl h7 rfl) (cm rfl ?_)))))
 refine Ch.cs 49 rfl ?_ ?_ <;> intro h8 q8
 iterate 4 refine cnf h8 rfl ?_
 refine co rfl (kpt rfl rfl h8 rfl) (Ch.nil (Fin.go (wk2 1 54 rfl (Tr.cond rfl (fun _ => ?_) (fun h => nomatch h)))))
 refine Tr.seq (Tr.reg0 (cm rfl (Ch.nil (Fin.go (Tr.ret (Fin.then_ret (Fin.ret1 rfl (OutW.bse _ _) rfl ?_)))))))
 · refine int_eq ?_; unfold eptB; simp_all
 refine cy h8 rfl (kfa rfl fo35_7 rfl rfl) (cy h8 rfl (kl1 rfl one22 rfl) (cy h8 rfl (ok_call rfl (w_ascends) ⟨ke rfl, trivial⟩) (cy h8 rfl (ok_not rfl (vl rfl)) (co rfl (kpf rfl rfl h8 rfl) (Ch.nil (Fin.go (wk2 1 54 rfl ?_)))))))
 refine Tr.cn rfl ?_ ?_ <;> intro h9 q9
 refine Tr.seq (Tr.reg0 (cm rfl (Ch.nil (Fin.go (Tr.ret (Fin.then_ret (Fin.ret1 rfl (OutW.bse _ _) rfl ?_)))))))
 · refine int_eq ?_; unfold eptB; simp_all
 refine Tr.skip (Fin.go (Tr.seq (Tr.seq (Tr.reg0 (co rfl (kfa rfl fo35_5 rfl rfl) (co rfl (kl1 rfl one33 rfl) (co rfl (ok_lenm rfl Try.underlying33 (vl rfl)) (cm rfl (Ch.nil (Fin.go (Tr.block (Tr.loopw [(1, _), (56, _), (57, _)] (kk3 rfl) (fun k : Nat => [(58, int ((k : Nat) : Int))]) (fun k : Nat => k ≤ (e.ids).length ∧ (∀ j y, j < k → e.ids[j]? = some y → (!idB y) = false)) (fun k : Nat => (e.ids).length - k) 0 (⟨Nat.zero_le _, fun j y hj => absurd hj (by omega)⟩) ⟨ke rfl, trivial⟩ ?_))))))))))))
 rintro k ⟨hle_k, hinv_k⟩
 refine Tr.seq (Tr.reg0 (co rfl (ki rfl rfl rfl rfl) (Ch.nil (Fin.go (Tr.seq ?_)))))
 refine Tr.cn rfl ?_ ?_ <;> intro h10 q10
 have hk_k : k < (e.ids).length := lt_of_dec h10
 obtain ⟨x, hx_k⟩ := at_ hk_k
 have hxf := hf.ids x (List.mem_of_getElem? hx_k)
 refine Tr.skip (Fin.go (Tr.seq (Tr.block (Tr.seq (Tr.regT (tp rfl (ok_indexAddr rfl Try.underlying33 sz55 (vl rfl) (vl rfl) (by omega) (by exact row_at (by assumption))) ?_))))))
 refine tp rfl (ok_loadA rfl agg55 sz55 (vl rfl) rfl rfl) ?_
 refine TO.alloc rfl rfl (by decide) rfl z55 zo55 (fun b1 => ?_)
 refine TO.store_all 0 rfl rfl rfl (vl rfl) (VL.le (vl rfl) (agg_cellsP _)) rfl sz55 rfl rfl (TO.freeze 0 4 rfl rfl (TO.nil (Fin.go (Tr.seq (Tr.reg0 (co rfl (kfa rfl fo55_0 rfl rfl) (co rfl (ok_loadA rfl agg51 sz51 (vl rfl) rfl rfl) (co rfl (kfa rfl fo55_1 rfl rfl) (co rfl (kl1 rfl one3 rfl) (co rfl (kfa rfl fo55_2 rfl rfl) (co rfl (kl1 rfl one53 rfl) (co rfl (ok_call rfl (w_Shows hxf) ⟨ke rfl, ke rfl, ke rfl, trivial⟩) (co rfl (ok_not rfl (vl rfl)) ?_)))))))))))))
 refine Ch.nil (Fin.go (wk5 1 56 57 58 69 rfl ?_))
 refine Tr.cn rfl ?_ ?_ <;> intro h11 q11
 refine Tr.seq (Tr.reg0 (cm rfl (Ch.nil (Fin.go (Tr.ret (Fin.block_ret (Fin.then_ret (Fin.then_ret (Fin.block_ret (Fin.then_ret (Fin.ret1 rfl (OutW.bse _ _) rfl ?_)))))))))))
 · refine int_eq ?_; unfold eptB; rw [all_hit (p := idB) hx_k (by unfold idB; simp_all)]; simp
 refine Tr.skip (Fin.block (Fin.go (Tr.reg0 (cad rfl rfl rfl rfl (by omega) (cm rfl (Ch.nil ?_))))))
 exact Fin.fam_same (k + 1) ⟨⟨hk_k, step_no (p := fun c => !idB c) hx_k (by unfold idB; simp_all) hinv_k⟩, by omega⟩ ⟨⟨_, rfl, int_succ k⟩, ke rfl, ke rfl, ke rfl, trivial⟩
 have he_k : k = (e.ids).length := by have := ge_of_dec h10; omega
 subst he_k
 have hall := all_end hinv_k
 refine Tr.exit (Fin.then_exit (Fin.then_exit (Fin.block_here (Fin.go (Tr.seq (Tr.reg0 (cm rfl (Ch.nil (Fin.go (Tr.seq (Tr.seq (Tr.re 5 rfl (fn_le_clo (dom := fun p : Int → Bool => [clo Try.prog (fun x : Int => [int x]) (fun x => bool (p x))]) (res := fun p => clo Try.prog (fun x : Int => [int x]) (fun x => bool (!p x))) e_EC1 (fun p => w_EC1 (p := p))) ?_))))))))))))
 refine Tr.reg1 mixed (by kernel_rfl) (co rfl (kfa rfl fo35_6 rfl rfl) (co rfl (kl1 rfl one22 rfl) (cm rfl ?_)))
 refine co rfl (ok_callc keyB rfl (vl rfl) ⟨⟨_, rfl, fn_le_clo (dom := fun n : Int => [int n]) (res := fun n => bool (keyB n)) e_CKey (fun n => w_CKey (n := n))⟩, trivial⟩) ?_
 refine co rfl (ok_call rfl (w_ContainsFuncI (l := e.anchors) (p := fun n => !keyB n)) ⟨ke rfl, ke rfl, trivial⟩) ?_
 refine cm rfl ?_
 refine Ch.cs 76 rfl ?_ ?_ <;> intro h12 q12
 iterate 5 refine cnf h12 rfl ?_
 refine co rfl (kpt rfl rfl h12 rfl) (Ch.nil (Fin.go (wk1 82 rfl (Tr.cond rfl (fun _ => ?_) (fun h => nomatch h)))))
 refine Tr.seq (Tr.reg0 (cm rfl (Ch.nil (Fin.go (Tr.ret (Fin.then_ret (Fin.ret1 rfl (OutW.bse _ _) rfl ?_)))))))
 · refine int_eq ?_; unfold eptB; rw [if_neg]; intro hh; simp only [Bool.and_eq_true] at hh; have g1 := hh.1.2; have g2 := hh.2; clear hh hinv_k hf hall; simp only [any_not, g1, g2, Bool.not_true, Bool.false_eq_true] at *
 refine cy h12 rfl (kfa rfl fo35_7 rfl rfl) (cy h12 rfl (kl1 rfl one22 rfl) (cym h12 rfl ?_))
 refine cy h12 rfl (ok_callc hashB rfl (vl rfl) ⟨⟨_, rfl, fn_le_clo (dom := fun n : Int => [int n]) (res := fun n => bool (hashB n)) e_hash (fun n => w_hash (n := n))⟩, trivial⟩) ?_
 refine cy h12 rfl (ok_call rfl (w_ContainsFuncI (l := e.hashes) (p := fun n => !hashB n)) ⟨ke rfl, ke rfl, trivial⟩) ?_
 refine co rfl (kpf rfl rfl h12 rfl) (Ch.nil (Fin.go (wk1 82 rfl ?_)))
 refine Tr.cn rfl ?_ ?_ <;> intro h13 q13
 refine Tr.seq (Tr.reg0 (cm rfl (Ch.nil (Fin.go (Tr.ret (Fin.then_ret (Fin.ret1 rfl (OutW.bse _ _) rfl ?_)))))))
 · refine int_eq ?_; unfold eptB; rw [if_neg]; intro hh; simp only [Bool.and_eq_true] at hh; have g1 := hh.1.2; have g2 := hh.2; clear hh hinv_k hf hall; simp only [any_not, g1, g2, Bool.not_true, Bool.false_eq_true] at *
 refine Tr.skip (Fin.go (Tr.seq (Tr.reg0 (cm rfl (Ch.nil (Fin.go (Tr.ret (Fin.ret1 rfl (OutW.bse _ _) rfl ?_))))))))
 · refine int_eq ?_; unfold eptB; simp_all; omega
end Go.Proofs.Ytflodcidhlmaaaa
namespace Go.Proofs.Ytflodcidhlmaaaa
open Go Go.RowKit Cp
theorem len_pos' {β γ : Type} {f : β → γ} {l : List β} (h : l ≠ []) : 0 < (l.map f).length := by rw [List.length_map]; exact List.length_pos_iff.2 h
set_option maxRecDepth 20000 in
theorem w_CloneNi {l : List (Int)} (h0 : l ≠ []) (hl : l.length ≤ 1000000) : FunM Try.prog 72 [slice 1 (l.map (fun n : Int => [int n]))] (lens (l.map (fun n : Int => [int n])).length) (noRes) (fun v => mutRes 3 1 (l.map (fun n : Int => [int n])) v) := by
 refine FunM.of Try.func72 rfl rfl (by exact Nat.le_of_ble_eq_true rfl) fun M0 w0 S rs M1 w1 => ?_
 have hpos := len_pos' (f := (fun n : Int => [int n])) h0
 refine Tr.seq (Tr.reg0 (cm rfl (Ch.nil (Fin.go (Tr.seq (Tr.seq (Tr.reg0 (cm rfl (co rfl (ok_eqnil rfl Try.underlying22 (vl rfl)) (Ch.nil (Fin.go (Tr.ex 4 rfl (fun z1 => Tr.fact 4 rfl fun hz1 => ?_)))))))))))))
 refine Tr.cn rfl ?_ ?_ <;> intro h1 q1
 exfalso; have := hz1 h1; simp_all
 refine Tr.skip (Fin.go (Tr.seq (Tr.regT (tp rfl (ok_buildSlice (xs := []) (rows := []) rfl rfl Try.underlying22 sz3 z3 rfl (by decide) trivial (by decide)) (tm rfl (TO.pad ?_))))))
 refine TO.efs 0 rfl rfl (by decide) (ef_appvoid rfl rfl (by decide) rfl Try.underlying22 sz3 by3 z3 rfl (by decide) (by decide) (vl rfl) (vl rfl) hpos (by rw [List.length_map]; unfold maxLen; omega) (by rw [List.length_map]; omega)) (fun v1 => ?_)
 refine tm rfl (TO.nil (Fin.go (Tr.ret (Fin.drop 1 ?_))))
 refine Fin.retM1 rfl rfl ?_ (by intro _ _ _ h; rw [h.1])
 · exact andIs_le _ _
set_option maxRecDepth 20000 in
theorem w_CloneEi   : Fun Try.prog 72 [slice 1 []] (full 1 []) := by
 refine Fun.of Try.func72 rfl rfl (by exact Nat.le_of_ble_eq_true rfl) fun M0 w0 => ?_
 refine Tr.seq (Tr.reg0 (cm rfl (Ch.nil (Fin.go (Tr.seq (Tr.seq (Tr.reg0 (cm rfl (co rfl (ok_eqnil rfl Try.underlying22 (vl rfl)) (Ch.nil (Fin.go (Tr.ex 4 rfl (fun z1 => Tr.fact 4 rfl fun hz1 => ?_)))))))))))))
 refine Tr.cn rfl ?_ ?_ <;> intro h1 q1
 refine Tr.seq (Tr.reg0 (cm rfl (Ch.nil (Fin.go (Tr.ret (Fin.then_ret (Fin.ret1 rfl (OutW.bse _ _) rfl ?_)))))))
 · exact nil_full 1
 refine Tr.skip (Fin.go (Tr.seq (Tr.reg0 (co rfl (ok_buildSlice (xs := []) (rows := []) rfl rfl Try.underlying22 sz3 z3 rfl (by decide) trivial (by decide)) (cm rfl (co rfl (ok_appEE rfl Try.underlying22 sz3 (vl rfl) (vl rfl)) (cm rfl (Ch.nil (Fin.go (Tr.ret (Fin.ret1 rfl (OutW.bse _ _) rfl ?_)))))))))))
 · exact Pr.le_refl _
theorem w_CloneFi {l : List (Int)} (hl : l.length ≤ 1000000) : Fun Try.prog 72 [slice 1 (l.map (fun n : Int => [int n]))] (slice 1 (l.map (fun n : Int => [int n]))) := by
  by_cases h0 : l = []
  · subst h0; exact Fun.le w_CloneEi (fun _ _ _ h => h) (full_le _ _)
  · exact (FunM.frzN (rows := (l.map (fun n : Int => [int n]))) (map_rows fun _ => rfl) (w_CloneNi h0 hl)).pure
theorem w_CloneWi {l : List (Int)} (hl : l.length ≤ 1000000) : FunM Try.prog 72 [slice 1 (l.map (fun n : Int => [int n]))] (lens l.length) noRes (fun v => oweRes 3 1 (l.map (fun n : Int => [int n])) v) := by
  by_cases h0 : l = []
  · subst h0; exact FunM.owe_void w_CloneEi
  · have := FunM.owe_of_mut (by intro h; exact h0 (by simpa using h)) (w_CloneNi h0 hl)
    rwa [List.length_map] at this

set_option maxRecDepth 20000 in
theorem w_CloneNn {l : List (Idn)} (h0 : l ≠ []) (hl : l.length ≤ 1000000) : FunM Try.prog 73 [slice 4 (l.map rowId)] (lens (l.map rowId).length) (noRes) (fun v => mutRes 55 4 (l.map rowId) v) := by
 refine FunM.of Try.func73 rfl rfl (by exact Nat.le_of_ble_eq_true rfl) fun M0 w0 S rs M1 w1 => ?_
 have hpos := len_pos' (f := rowId) h0
 refine Tr.seq (Tr.reg0 (cm rfl (Ch.nil (Fin.go (Tr.seq (Tr.seq (Tr.reg0 (cm rfl (co rfl (ok_eqnil rfl Try.underlying33 (vl rfl)) (Ch.nil (Fin.go (Tr.ex 4 rfl (fun z1 => Tr.fact 4 rfl fun hz1 => ?_)))))))))))))
 refine Tr.cn rfl ?_ ?_ <;> intro h1 q1
 exfalso; have := hz1 h1; simp_all
 refine Tr.skip (Fin.go (Tr.seq (Tr.regT (tp rfl (ok_buildSlice (xs := []) (rows := []) rfl rfl Try.underlying33 sz55 z55 rfl (by decide) trivial (by decide)) (tm rfl (TO.pad ?_))))))
 refine TO.efs 0 rfl rfl (by decide) (ef_appvoid rfl rfl (by decide) rfl Try.underlying33 sz55 by55 z55 rfl (by decide) (by decide) (vl rfl) (vl rfl) hpos (by rw [List.length_map]; unfold maxLen; omega) (by rw [List.length_map]; omega)) (fun v1 => ?_)
 refine tm rfl (TO.nil (Fin.go (Tr.ret (Fin.drop 1 ?_))))
 refine Fin.retM1 rfl rfl ?_ (by intro _ _ _ h; rw [h.1])
 · exact andIs_le _ _
set_option maxRecDepth 20000 in
theorem w_CloneEn   : Fun Try.prog 73 [slice 4 []] (full 4 []) := by
 refine Fun.of Try.func73 rfl rfl (by exact Nat.le_of_ble_eq_true rfl) fun M0 w0 => ?_
 refine Tr.seq (Tr.reg0 (cm rfl (Ch.nil (Fin.go (Tr.seq (Tr.seq (Tr.reg0 (cm rfl (co rfl (ok_eqnil rfl Try.underlying33 (vl rfl)) (Ch.nil (Fin.go (Tr.ex 4 rfl (fun z1 => Tr.fact 4 rfl fun hz1 => ?_)))))))))))))
 refine Tr.cn rfl ?_ ?_ <;> intro h1 q1
 refine Tr.seq (Tr.reg0 (cm rfl (Ch.nil (Fin.go (Tr.ret (Fin.then_ret (Fin.ret1 rfl (OutW.bse _ _) rfl ?_)))))))
 · exact nil_full 4
 refine Tr.skip (Fin.go (Tr.seq (Tr.reg0 (co rfl (ok_buildSlice (xs := []) (rows := []) rfl rfl Try.underlying33 sz55 z55 rfl (by decide) trivial (by decide)) (cm rfl (co rfl (ok_appEE rfl Try.underlying33 sz55 (vl rfl) (vl rfl)) (cm rfl (Ch.nil (Fin.go (Tr.ret (Fin.ret1 rfl (OutW.bse _ _) rfl ?_)))))))))))
 · exact Pr.le_refl _
theorem w_CloneWn {l : List (Idn)} (hl : l.length ≤ 1000000) : FunM Try.prog 73 [slice 4 (l.map rowId)] (lens l.length) noRes (fun v => oweRes 55 4 (l.map rowId) v) := by
  by_cases h0 : l = []
  · subst h0; exact FunM.owe_void w_CloneEn
  · have := FunM.owe_of_mut (by intro h; exact h0 (by simpa using h)) (w_CloneNn h0 hl)
    rwa [List.length_map] at this

set_option maxRecDepth 20000 in
theorem w_CloneNc {l : List (Crt)} (h0 : l ≠ []) (hl : l.length ≤ 1000000) : FunM Try.prog 102 [slice 15 (l.map rowCr)] (lens (l.map rowCr).length) (noRes) (fun v => mutRes 91 15 (l.map rowCr) v) := by
 refine FunM.of Try.func102 rfl rfl (by exact Nat.le_of_ble_eq_true rfl) fun M0 w0 S rs M1 w1 => ?_
 have hpos := len_pos' (f := rowCr) h0
 refine Tr.seq (Tr.reg0 (cm rfl (Ch.nil (Fin.go (Tr.seq (Tr.seq (Tr.reg0 (cm rfl (co rfl (ok_eqnil rfl Try.underlying53 (vl rfl)) (Ch.nil (Fin.go (Tr.ex 4 rfl (fun z1 => Tr.fact 4 rfl fun hz1 => ?_)))))))))))))
 refine Tr.cn rfl ?_ ?_ <;> intro h1 q1
 exfalso; have := hz1 h1; simp_all
 refine Tr.skip (Fin.go (Tr.seq (Tr.regT (tp rfl (ok_buildSlice (xs := []) (rows := []) rfl rfl Try.underlying53 sz91 z91 rfl (by decide) trivial (by decide)) (tm rfl (TO.pad ?_))))))
 refine TO.efs 0 rfl rfl (by decide) (ef_appvoid rfl rfl (by decide) rfl Try.underlying53 sz91 by91 z91 rfl (by decide) (by decide) (vl rfl) (vl rfl) hpos (by rw [List.length_map]; unfold maxLen; omega) (by rw [List.length_map]; omega)) (fun v1 => ?_)
 refine tm rfl (TO.nil (Fin.go (Tr.ret (Fin.drop 1 ?_))))
 refine Fin.retM1 rfl rfl ?_ (by intro _ _ _ h; rw [h.1])
 · exact andIs_le _ _
set_option maxRecDepth 20000 in
theorem w_CloneEc   : Fun Try.prog 102 [slice 15 []] (full 15 []) := by
 refine Fun.of Try.func102 rfl rfl (by exact Nat.le_of_ble_eq_true rfl) fun M0 w0 => ?_
 refine Tr.seq (Tr.reg0 (cm rfl (Ch.nil (Fin.go (Tr.seq (Tr.seq (Tr.reg0 (cm rfl (co rfl (ok_eqnil rfl Try.underlying53 (vl rfl)) (Ch.nil (Fin.go (Tr.ex 4 rfl (fun z1 => Tr.fact 4 rfl fun hz1 => ?_)))))))))))))
 refine Tr.cn rfl ?_ ?_ <;> intro h1 q1
 refine Tr.seq (Tr.reg0 (cm rfl (Ch.nil (Fin.go (Tr.ret (Fin.then_ret (Fin.ret1 rfl (OutW.bse _ _) rfl ?_)))))))
 · exact nil_full 15
 refine Tr.skip (Fin.go (Tr.seq (Tr.reg0 (co rfl (ok_buildSlice (xs := []) (rows := []) rfl rfl Try.underlying53 sz91 z91 rfl (by decide) trivial (by decide)) (cm rfl (co rfl (ok_appEE rfl Try.underlying53 sz91 (vl rfl) (vl rfl)) (cm rfl (Ch.nil (Fin.go (Tr.ret (Fin.ret1 rfl (OutW.bse _ _) rfl ?_)))))))))))
 · exact Pr.le_refl _
theorem w_CloneWc {l : List (Crt)} (hl : l.length ≤ 1000000) : FunM Try.prog 102 [slice 15 (l.map rowCr)] (lens l.length) noRes (fun v => oweRes 91 15 (l.map rowCr) v) := by
  by_cases h0 : l = []
  · subst h0; exact FunM.owe_void w_CloneEc
  · have := FunM.owe_of_mut (by intro h; exact h0 (by simpa using h)) (w_CloneNc h0 hl)
    rwa [List.length_map] at this

set_option maxRecDepth 20000 in
theorem w_CloneNs {l : List (List UInt8)} (h0 : l ≠ []) (hl : l.length ≤ 1000000) : FunM Try.prog 103 [slice 1 (l.map (fun t : List UInt8 => [str t]))] (lens (l.map (fun t : List UInt8 => [str t])).length) (noRes) (fun v => mutRes 9 1 (l.map (fun t : List UInt8 => [str t])) v) := by
 refine FunM.of Try.func103 rfl rfl (by exact Nat.le_of_ble_eq_true rfl) fun M0 w0 S rs M1 w1 => ?_
 have hpos := len_pos' (f := (fun t : List UInt8 => [str t])) h0
 refine Tr.seq (Tr.reg0 (cm rfl (Ch.nil (Fin.go (Tr.seq (Tr.seq (Tr.reg0 (cm rfl (co rfl (ok_eqnil rfl Try.underlying62 (vl rfl)) (Ch.nil (Fin.go (Tr.ex 4 rfl (fun z1 => Tr.fact 4 rfl fun hz1 => ?_)))))))))))))
 refine Tr.cn rfl ?_ ?_ <;> intro h1 q1
 exfalso; have := hz1 h1; simp_all
 refine Tr.skip (Fin.go (Tr.seq (Tr.regT (tp rfl (ok_buildSlice (xs := []) (rows := []) rfl rfl Try.underlying62 sz9 z9 rfl (by decide) trivial (by decide)) (tm rfl (TO.pad ?_))))))
 refine TO.efs 0 rfl rfl (by decide) (ef_appvoid rfl rfl (by decide) rfl Try.underlying62 sz9 by9 z9 rfl (by decide) (by decide) (vl rfl) (vl rfl) hpos (by rw [List.length_map]; unfold maxLen; omega) (by rw [List.length_map]; omega)) (fun v1 => ?_)
 refine tm rfl (TO.nil (Fin.go (Tr.ret (Fin.drop 1 ?_))))
 refine Fin.retM1 rfl rfl ?_ (by intro _ _ _ h; rw [h.1])
 · exact andIs_le _ _
set_option maxRecDepth 20000 in
theorem w_CloneEs   : Fun Try.prog 103 [slice 1 []] (full 1 []) := by
 refine Fun.of Try.func103 rfl rfl (by exact Nat.le_of_ble_eq_true rfl) fun M0 w0 => ?_
 refine Tr.seq (Tr.reg0 (cm rfl (Ch.nil (Fin.go (Tr.seq (Tr.seq (Tr.reg0 (cm rfl (co rfl (ok_eqnil rfl Try.underlying62 (vl rfl)) (Ch.nil (Fin.go (Tr.ex 4 rfl (fun z1 => Tr.fact 4 rfl fun hz1 => ?_)))))))))))))
 refine Tr.cn rfl ?_ ?_ <;> intro h1 q1
 refine Tr.seq (Tr.reg0 (cm rfl (Ch.nil (Fin.go (Tr.ret (Fin.then_ret (Fin.ret1 rfl (OutW.bse _ _) rfl ?_)))))))
 · exact nil_full 1
 refine Tr.skip (Fin.go (Tr.seq (Tr.reg0 (co rfl (ok_buildSlice (xs := []) (rows := []) rfl rfl Try.underlying62 sz9 z9 rfl (by decide) trivial (by decide)) (cm rfl (co rfl (ok_appEE rfl Try.underlying62 sz9 (vl rfl) (vl rfl)) (cm rfl (Ch.nil (Fin.go (Tr.ret (Fin.ret1 rfl (OutW.bse _ _) rfl ?_)))))))))))
 · exact Pr.le_refl _
theorem w_CloneFs {l : List (List UInt8)} (hl : l.length ≤ 1000000) : Fun Try.prog 103 [slice 1 (l.map (fun t : List UInt8 => [str t]))] (slice 1 (l.map (fun t : List UInt8 => [str t]))) := by
  by_cases h0 : l = []
  · subst h0; exact Fun.le w_CloneEs (fun _ _ _ h => h) (full_le _ _)
  · exact (FunM.frzN (rows := (l.map (fun t : List UInt8 => [str t]))) (map_rows fun _ => rfl) (w_CloneNs h0 hl)).pure
set_option maxRecDepth 20000 in
theorem w_IdxN {l : List Idn} {p : Idn → Bool}  : Fun Try.prog 135 [idns l, clo Try.prog (fun x : Idn => [agg (rowId x)]) (fun x => bool (p x))] (int (idx p l)) := by
 refine Fun.of Try.func135 rfl rfl (by exact Nat.le_of_ble_eq_true rfl) fun M0 w0 => ?_
 refine Tr.lenm 0 rfl fun hlm_0 => (Tr.seq (Tr.reg0 (cm rfl (Ch.nil (Fin.go (Tr.seq (Tr.seq (Tr.reg0 (cm rfl (co rfl (ok_lenm rfl Try.underlying33 (vl rfl)) (cm rfl (Ch.nil (Fin.go (Tr.block ?_))))))))))))))
 refine Tr.loopw [(0, _), (1, _), (7, _)] (kk3 rfl) (fun k : Nat => [(8, int ((k : Nat) : Int))]) (fun k : Nat => k ≤ (l).length ∧ (∀ j y, j < k → l[j]? = some y → p y = false)) (fun k : Nat => (l).length - k) 0 (⟨Nat.zero_le _, fun j y hj => absurd hj (by omega)⟩) ⟨ke rfl, trivial⟩ ?_
 rintro k ⟨hle_k, hinv_k⟩
 refine Tr.seq (Tr.reg0 (co rfl (ki rfl rfl rfl rfl) (Ch.nil (Fin.go (Tr.seq ?_)))))
 refine Tr.cn rfl ?_ ?_ <;> intro h1 q1
 have hk_k : k < (l).length := lt_of_dec h1
 obtain ⟨x, hx_k⟩ := at_ hk_k
 refine Tr.skip (Fin.go (Tr.seq (Tr.block (Tr.seq (Tr.reg0 (cm rfl (cm rfl (Ch.nil (Fin.go (Tr.seq (Tr.reg0 (cm rfl (cm rfl ?_)))))))))))))
 refine cm rfl (co rfl (ok_indexAddr rfl Try.underlying33 sz55 (vl rfl) (vl rfl) (by omega) (by exact row_at (by assumption))) ?_)
 refine co rfl (ok_loadA rfl agg55 sz55 (vl rfl) rfl rfl) (co rfl (ok_callc x rfl (vl rfl) ⟨ke rfl, trivial⟩) (Ch.nil (Fin.go ?_)))
 refine Tr.cn rfl ?_ ?_ <;> intro h2 q2
 refine Tr.seq (Tr.reg0 (cm rfl (cm rfl (Ch.nil (Fin.go (wk1 4 rfl (Tr.ret (Fin.block_ret (Fin.then_ret (Fin.then_ret (Fin.block_ret (Fin.then_ret (Fin.ret1 rfl (OutW.bse _ _) rfl ?_)))))))))))))
 · exact int_eq (idx_found hx_k (by assumption) hinv_k)
 refine Tr.skip (Fin.block (Fin.go (Tr.reg0 (cad rfl rfl rfl rfl (by omega) (cm rfl (Ch.nil (Fin.fam_same (k + 1) ⟨⟨hk_k, step_no hx_k (by assumption) hinv_k⟩, by omega⟩ ⟨⟨_, rfl, int_succ k⟩, ke rfl, ke rfl, ke rfl, trivial⟩)))))))
 have he_k : k = (l).length := by have := ge_of_dec h1; omega
 subst he_k
 refine Tr.exit (Fin.then_exit (Fin.then_exit (Fin.block_here (Fin.go (Tr.seq (Tr.reg0 (cm rfl (Ch.nil (Fin.go (Tr.ret (Fin.ret1 rfl (OutW.bse _ _) rfl ?_)))))))))))
 · exact int_eq (idx_none hinv_k)
set_option maxRecDepth 20000 in
theorem w_HasN {l : List Idn} {p : Idn → Bool}  : Fun Try.prog 110 [idns l, clo Try.prog (fun x : Idn => [agg (rowId x)]) (fun x => bool (p x))] (bool (l.any p)) := by
 refine Fun.of Try.func110 rfl rfl (by exact Nat.le_of_ble_eq_true rfl) fun M0 w0 => ?_
 refine Tr.seq (Tr.reg0 (cm rfl (Ch.nil (Fin.go (Tr.seq (Tr.reg0 (cm rfl (cm rfl (co rfl (ok_call rfl (w_IdxN) ⟨ke rfl, ke rfl, trivial⟩) (co rfl (ki rfl rfl rfl rfl) (cm rfl (Ch.nil (Fin.go (Tr.ret ?_))))))))))))))
 refine Fin.ret1 rfl (OutW.bse _ _) rfl ?_
 · exact bool_eq (idx_any p l)
set_option maxRecDepth 20000 in
set_option maxHeartbeats 1000000 in
theorem w_DelBi {l : List (Int)} {b0 cap i : Nat} {sp : List Value} (hi : i < l.length) (hl : l.length ≤ 1000000) (hc : l.length ≤ cap) (hm : cap ≤ maxLen) (hq : sp.length = (cap - l.length) * 1) : FunM Try.prog 106 [andIs (.slice (some ⟨b0, 0, none⟩) l.length cap) (lens l.length), int ((i : Nat) : Int), int (((i : Nat) : Int) + 1)] (lens (l.length - 1)) (cellsRes true b0 3 ((l.map (fun n : Int => [int n])).flatten ++ sp.map is)) (fun v => ownRes 3 1 ((l.eraseIdx i).map (fun n : Int => [int n])) v) := by
 refine FunM.of Try.func106 rfl rfl (by exact Nat.le_of_ble_eq_true rfl) fun M0 w0 S rs M1 w1 => ?_
 have hAl : ((l.map (fun n : Int => [int n])).flatten).length = l.length * 1 := by rw [flat_len (sz := 1) (map_rows fun _ => rfl), List.length_map]
 have e1 : (((i : Nat) : Int) + (1 : Int)).toNat = i + 1 := by omega
 have e2 : ((i : Nat) : Int).toNat = i := by omega
 refine Tr.seq (Tr.reg0 (cm rfl (Ch.nil (Fin.go (Tr.seq (Tr.reg0 ?_))))))
 iterate 4 refine cm rfl ?_
 refine co rfl (okb_len rfl Try.underlying22 ⟨_, rfl, andIs_is _ _⟩) (co rfl (okb_sliceThree rfl Try.underlying22 sz3 ⟨_, rfl, andIs_is _ _⟩ (vl rfl) (vl rfl) (vl rfl) (by omega) (by omega) (by omega) (by omega)) (Ch.nil (Fin.go (Tr.seq (Tr.seq (Tr.reg0 (cm rfl (cm rfl (co rfl (ki rfl rfl rfl rfl) (Ch.nil (Fin.go ?_)))))))))))
 refine Tr.cn rfl ?_ ?_ <;> intro h1 q1
 exfalso; have := q1; omega
 refine Tr.skip (Fin.go (Tr.seq (Tr.reg0 (cm rfl (co rfl (okb_len rfl Try.underlying22 ⟨_, rfl, andIs_is _ _⟩) (cm rfl (Ch.nil (Fin.go (Tr.seq (Tr.regOne mixed 6 (by kernel_rfl) (ChOne.op rfl rfl (by decide) (ok_move rfl (vl rfl)) (ChOne.op rfl rfl (by decide) (ok_move rfl (vl rfl)) (ChOne.op rfl rfl (by decide) (okb_sliceTo rfl Try.underlying22 sz3 ⟨_, rfl, andIs_is _ _⟩ (vl rfl) (by omega) (by omega) (by omega) (by omega)) ?_)))))))))))))
 refine ChOne.op rfl rfl (by decide) (ok_move rfl (vl rfl)) (ChOne.op rfl rfl (by decide) (ok_move rfl (vl rfl)) (ChOne.op rfl rfl (by decide) (okb_sliceTail rfl Try.underlying22 sz3 ⟨_, rfl, andIs_is _ _⟩ (vl rfl) (by omega) (by omega) (by omega)) ?_))
 refine ChOne.turn _ rfl (by decide) (turn_ef 0 rfl (ef_appTail rfl rfl (by decide) rfl Try.underlying22 sz3 (vl rfl) (vl rfl) (by omega) (by rw [List.length_append, hAl]; omega) (by rw [List.length_append, hAl]; omega) rfl)) ?_
 refine cm rfl (Ch.nil (Fin.go (wk2 0 7 rfl (Tr.seq (Tr.regT (tm rfl (tm rfl (tp rfl (okb_len rfl Try.underlying22 (vl rfl)) (tm rfl (tp rfl (okb_sliceTwo rfl Try.underlying22 sz3 (vl rfl) (vl rfl) (vl rfl) (by omega) (by omega) (by omega)) ?_))))))))))
 refine TO.ef0 0 rfl rfl (ef_clear rfl rfl Try.underlying22 sz3 z3 rfl (by decide) (by decide) (vl rfl) (by omega) (by simp only [List.length_append, List.length_take, List.length_drop, List.length_map, hAl]; omega) rfl) ?_
 refine TO.nil (Fin.go (Tr.seq (Tr.reg0 (cm rfl (cm rfl (Ch.nil (Fin.go (Tr.ret ?_))))))))
 refine Fin.closeH (sz := 1) 0 rfl (rows := ((l.eraseIdx i).map (fun n : Int => [int n]))) (sp := [.int .i64 0] ++ sp) (m := i + (l.length - (i + 1))) ((del_place (N := l.length * 1) (a := i * 1) (z := 1) (S := sp.map is) hAl (by omega) (by omega) (by omega) (by omega) (by omega) (by omega) (by omega) (B := _) rfl).trans (by rw [List.map_append, ← flat_delN (f := (fun n : Int => [int n])) (sz := 1) (fun _ => rfl), Nat.succ_mul, rep1] <;> omega)) (by rw [List.length_map, List.length_eraseIdx, if_pos hi]; omega) (by omega) hm (by rw [List.length_append, hq]; simp only [List.length_cons, List.length_nil]; omega) ?_
 refine Fin.retM1 rfl rfl ?_ (by rintro _ _ _ rfl; rfl)
 · rintro _ _ _ rfl; exact ⟨_, _, by congr 1; omega⟩
theorem e_DelBi : Entry Try.prog 106 := ⟨_, Try.func106, rfl, rfl⟩
set_option maxRecDepth 20000 in
set_option maxHeartbeats 1000000 in
theorem w_DelBn {l : List (Idn)} {b0 cap i : Nat} {sp : List Value} (hi : i < l.length) (hl : l.length ≤ 1000000) (hc : l.length ≤ cap) (hm : cap ≤ maxLen) (hq : sp.length = (cap - l.length) * 4) : FunM Try.prog 112 [andIs (.slice (some ⟨b0, 0, none⟩) l.length cap) (lens l.length), int ((i : Nat) : Int), int (((i : Nat) : Int) + 1)] (lens (l.length - 1)) (cellsRes true b0 55 ((l.map rowId).flatten ++ sp.map is)) (fun v => ownRes 55 4 ((l.eraseIdx i).map rowId) v) := by
 refine FunM.of Try.func112 rfl rfl (by exact Nat.le_of_ble_eq_true rfl) fun M0 w0 S rs M1 w1 => ?_
 have hAl : ((l.map rowId).flatten).length = l.length * 4 := by rw [flat_len (sz := 4) (map_rows fun _ => rfl), List.length_map]
 have e1 : (((i : Nat) : Int) + (1 : Int)).toNat = i + 1 := by omega
 have e2 : ((i : Nat) : Int).toNat = i := by omega
 refine Tr.seq (Tr.reg0 (cm rfl (Ch.nil (Fin.go (Tr.seq (Tr.reg0 ?_))))))
 iterate 4 refine cm rfl ?_
 refine co rfl (okb_len rfl Try.underlying33 ⟨_, rfl, andIs_is _ _⟩) (co rfl (okb_sliceThree rfl Try.underlying33 sz55 ⟨_, rfl, andIs_is _ _⟩ (vl rfl) (vl rfl) (vl rfl) (by omega) (by omega) (by omega) (by omega)) (Ch.nil (Fin.go (Tr.seq (Tr.seq (Tr.reg0 (cm rfl (cm rfl (co rfl (ki rfl rfl rfl rfl) (Ch.nil (Fin.go ?_)))))))))))
 refine Tr.cn rfl ?_ ?_ <;> intro h1 q1
 exfalso; have := q1; omega
 refine Tr.skip (Fin.go (Tr.seq (Tr.reg0 (cm rfl (co rfl (okb_len rfl Try.underlying33 ⟨_, rfl, andIs_is _ _⟩) (cm rfl (Ch.nil (Fin.go (Tr.seq (Tr.regOne mixed 6 (by kernel_rfl) (ChOne.op rfl rfl (by decide) (ok_move rfl (vl rfl)) (ChOne.op rfl rfl (by decide) (ok_move rfl (vl rfl)) (ChOne.op rfl rfl (by decide) (okb_sliceTo rfl Try.underlying33 sz55 ⟨_, rfl, andIs_is _ _⟩ (vl rfl) (by omega) (by omega) (by omega) (by omega)) ?_)))))))))))))
 refine ChOne.op rfl rfl (by decide) (ok_move rfl (vl rfl)) (ChOne.op rfl rfl (by decide) (ok_move rfl (vl rfl)) (ChOne.op rfl rfl (by decide) (okb_sliceTail rfl Try.underlying33 sz55 ⟨_, rfl, andIs_is _ _⟩ (vl rfl) (by omega) (by omega) (by omega)) ?_))
 refine ChOne.turn _ rfl (by decide) (turn_ef 0 rfl (ef_appTail rfl rfl (by decide) rfl Try.underlying33 sz55 (vl rfl) (vl rfl) (by omega) (by rw [List.length_append, hAl]; omega) (by rw [List.length_append, hAl]; omega) rfl)) ?_
 refine cm rfl (Ch.nil (Fin.go (wk2 0 7 rfl (Tr.seq (Tr.regT (tm rfl (tm rfl (tp rfl (okb_len rfl Try.underlying33 (vl rfl)) (tm rfl (tp rfl (okb_sliceTwo rfl Try.underlying33 sz55 (vl rfl) (vl rfl) (vl rfl) (by omega) (by omega) (by omega)) ?_))))))))))
 refine TO.ef0 0 rfl rfl (ef_clear rfl rfl Try.underlying33 sz55 z55 rfl (by decide) (by decide) (vl rfl) (by omega) (by simp only [List.length_append, List.length_take, List.length_drop, List.length_map, hAl]; omega) rfl) ?_
 refine TO.nil (Fin.go (Tr.seq (Tr.reg0 (cm rfl (cm rfl (Ch.nil (Fin.go (Tr.ret ?_))))))))
 refine Fin.closeH (sz := 4) 0 rfl (rows := ((l.eraseIdx i).map rowId)) (sp := [.int .i64 0, .int .i64 0, .int .i64 0, .slice none 0 0] ++ sp) (m := i + (l.length - (i + 1))) ((del_place (N := l.length * 4) (a := i * 4) (z := 4) (S := sp.map is) hAl (by omega) (by omega) (by omega) (by omega) (by omega) (by omega) (by omega) (B := _) rfl).trans (by rw [List.map_append, ← flat_delN (f := rowId) (sz := 4) (fun _ => rfl), Nat.succ_mul, rep1] <;> omega)) (by rw [List.length_map, List.length_eraseIdx, if_pos hi]; omega) (by omega) hm (by rw [List.length_append, hq]; simp only [List.length_cons, List.length_nil]; omega) ?_
 refine Fin.retM1 rfl rfl ?_ (by rintro _ _ _ rfl; rfl)
 · rintro _ _ _ rfl; exact ⟨_, _, by congr 1; omega⟩
theorem e_DelBn : Entry Try.prog 112 := ⟨_, Try.func112, rfl, rfl⟩
end Go.Proofs.Ytflodcidhlmaaaa
namespace Go.Proofs.Ytflodcidhlmaaaa
open Go Go.RowKit Cp
theorem w_DelWi {l : List (Int)} {v : Value} {i : Nat} (hi : i < l.length) (hl : l.length ≤ 1000000) : FunM Try.prog 106 [is v, int ((i : Nat) : Int), int (((i : Nat) : Int) + 1)] (slice 1 ((l.eraseIdx i).map (fun n : Int => [int n]))) (oweRes 3 1 (l.map (fun n : Int => [int n])) v) (fun _ => noRes) := by
  refine FunM.frz (e := 3) (m := l.length - 1) (map_rows fun _ => rfl) (FunM.owe_cases e_DelBi (fun h0 => ?_) (fun b cap sp hc hm hq => ?_))
  · have hl0 : l = [] := by simpa using h0
    subst hl0; simp at hi
  · rw [List.length_map] at hc hq ⊢
    exact w_DelBi hi hl hc hm (by omega)

set_option maxRecDepth 20000 in
set_option maxHeartbeats 1000000 in
theorem w_InsBn {l : List (Idn)} {x : Idn} {b0 cap i : Nat} {sp : List Value} (hi : i ≤ l.length) (hl : l.length ≤ 1000000) (hc : l.length ≤ cap) (hm : cap ≤ maxLen) (hq : sp.length = (cap - l.length) * 4) : FunM Try.prog 137 [andIs (.slice (some ⟨b0, 0, none⟩) l.length cap) (lens l.length), int ((i : Nat) : Int), slice 4 [rowId x]] (lens (l.length + 1)) (cellsRes true b0 55 ((l.map rowId).flatten ++ sp.map is)) (fun v => ownRes 55 4 ((l.take i ++ [x] ++ l.drop i).map rowId) v) := by
 refine FunM.of Try.func137 rfl rfl (by exact Nat.le_of_ble_eq_true rfl) fun M0 w0 S rs M1 w1 => ?_
 have hv2 : ([rowId x] : List (List Pr)).flatten.length = 4 := rfl
 have hv1 : ([rowId x] : List (List Pr)).length = 1 := rfl
 have hAl : ((l.map rowId).flatten).length = l.length * 4 := by rw [flat_len (sz := 4) (map_rows fun _ => rfl), List.length_map]
 have e1 : (((i : Nat) : Int) + (1 : Int)).toNat = i + 1 := by omega
 have e2 : ((i : Nat) : Int).toNat = i := by omega
 refine Tr.seq (Tr.reg0 (cm rfl (Ch.nil (Fin.go (Tr.seq (Tr.reg0 (cm rfl (cm rfl (co rfl (okb_sliceAny rfl Try.underlying33 sz55 ⟨_, rfl, andIs_is _ _⟩ (vl rfl) (by omega) (by omega) (by omega)) (Ch.nil (Fin.go (Tr.seq (Tr.reg0 ?_)))))))))))))
 refine cm rfl (co rfl (ok_len rfl Try.underlying33 (vl rfl)) (cm rfl (Ch.nil (Fin.go (Tr.seq (Tr.seq (Tr.reg0 (cm rfl (co rfl (ki rfl rfl rfl rfl) (Ch.nil (Fin.go ?_)))))))))))
 refine Tr.cn rfl ?_ ?_ <;> intro h1 q1
 simp at h1
 refine Tr.skip (Fin.go (Tr.seq (Tr.reg0 (cm rfl (co rfl (okb_len rfl Try.underlying33 ⟨_, rfl, andIs_is _ _⟩) (cm rfl (Ch.nil (Fin.go (Tr.seq (Tr.seq (Tr.reg0 (cm rfl (cm rfl ?_)))))))))))))
 refine co rfl (ki rfl rfl rfl rfl) (Ch.nil (Fin.go (wk6 0 1 2 7 8 22 rfl ?_)))
 refine Tr.cn rfl ?_ ?_ <;> intro h2 q2
 refine Tr.seq (Tr.closeG (sz := 4) 0 rfl (rows := l.map rowId) (sp := sp) rfl (by simp) hc hm hq (Tr.regT (tm rfl (tm rfl ?_))))
 refine TO.efs 0 rfl rfl (by decide) (ef_appmut rfl rfl (by decide) rfl Try.underlying33 sz55 by55 z55 rfl (by decide) (by decide) (vl rfl) (vl rfl) (map_rows fun _ => rfl) (Nat.zero_lt_succ _) (by simp only [List.length_map, List.length_cons, List.length_nil]; unfold maxLen; omega) (by simp only [List.length_map, List.length_cons, List.length_nil]; omega)) (fun v1 => ?_)
 refine tm rfl (TO.nil (Fin.go (Tr.ret (Fin.then_ret ?_))))
 refine Fin.retM1 rfl rfl ?_ (by rintro _ _ _ ⟨rfl, _⟩; rw [show i = l.length by omega, List.take_length, List.drop_length, List.append_nil, List.map_append]; rfl)
 · exact Pr.le_trans (andIs_le _ _) (Pr.le_of_eq (by simp))
 refine Tr.skip (Fin.go (Tr.seq (Tr.seq (Tr.reg0 (cm rfl (cm rfl (cad rfl rfl rfl rfl (by omega) (cm rfl (co rfl (okb_cap rfl Try.underlying33 ⟨_, rfl, andIs_is _ _⟩) (co rfl (ki rfl rfl rfl rfl) (Ch.nil (Fin.go ?_))))))))))))
 refine Tr.cn rfl ?_ ?_ <;> intro h3 q3
 refine Tr.seq (Tr.regT (tm rfl (tm rfl (tp rfl (okb_sliceTo rfl Try.underlying33 sz55 ⟨_, rfl, andIs_is _ _⟩ (vl rfl) (by omega) (by omega) (by omega) (by omega)) (tm rfl (tm rfl ?_))))))
 refine tp rfl (ok_add rfl (vl rfl) (vl rfl) ?hin) ?_; case hin => unfold InI; omega
 refine tm rfl ?_
 refine tp rfl (ok_sub rfl (vl rfl) (vl rfl) ?hin) ?_; case hin => unfold InI; omega
 refine TO.pad ?_
 refine TO.appzs 0 1 rfl rfl rfl rfl (by decide) rfl Try.underlying33 Try.underlying3 sz55 by55 z55 rfl (by decide) (by decide) (vl rfl) (vl rfl) (i := i) (k := l.length + 1 - i) (by omega) (by simp only [List.length_append, List.length_take, List.length_drop, List.length_map, hAl, hv1, hv2]; omega) (by omega) (by omega) (by unfold maxLen; omega) (by omega) (fun b1 cap1 sp1 hg1 hm1 hs1 => ?_)
 refine tm rfl (TO.nil (Fin.go (wk5 0 1 2 7 9 rfl (Tr.seq ?_))))
 have hsz : sp1.length = (cap1 - i) * 4 := by have := hs1; rw [List.length_take, List.length_append, hAl] at this; omega
 refine Tr.frzS (sz := 4) (l.map rowId) 1 0 rfl rfl (Pr.le_trans (andIs_is _ _) (Pr.le_of_eq (by simp))) (map_rows fun _ => rfl) (by rw [List.length_map]; exact hc) hm (by rw [List.length_map, List.length_map]; omega) ?_
 refine Tr.regT (tm rfl (tm rfl (tp rfl (okb_sliceFrom rfl Try.underlying33 sz55 (vl rfl) (vl rfl) (by omega) (by omega) (by omega)) (tm rfl ?_))))
 refine TO.efc 0 rfl rfl (by decide) (ef_copyS rfl rfl rfl Try.underlying33 sz55 (by decide) (vl rfl) (vl rfl) (by omega) (by omega) (by simp only [List.length_append, List.length_take, List.length_drop, List.length_map, hAl, hv1, hv2]; omega) rfl) ?_
 refine TO.nil (Fin.go (Tr.seq (Tr.regX mixed [none, none, none, none, none, none, none, none, some (0, 0, true, 0)] (by kernel_rfl) (xm rfl (xm rfl (xm rfl ?_))))))
 refine xo rfl (fun _ => ok_add rfl (vl rfl) (vl rfl) ?hin) ?_; case hin => unfold InI; omega
 refine xo rfl (fun _ => okb_sliceFrom rfl Try.underlying33 sz55 (vl rfl) (vl rfl) (by omega) (by omega) (by omega)) (xm rfl (xm rfl ?_))
 refine xo rfl (fun _ => ok_sliceFrom rfl Try.underlying33 sz55 ⟨_, rfl, andIs_le _ _⟩ (vl rfl) (by omega) (by simp; omega)) ?_
 refine Cx.ef 0 rfl rfl (by decide) (ef_copyS rfl rfl rfl Try.underlying33 sz55 (by decide) (vl rfl) (vl rfl) (by simp only [List.length_append, List.length_take, List.length_drop, List.length_map, hAl, hv1, hv2]; omega) (by simp only [List.length_append, List.length_take, List.length_drop, List.length_map, hAl, hv1, hv2]; omega) (by simp only [List.length_append, List.length_take, List.length_drop, List.length_map, hAl, hv1, hv2]; omega) rfl) ?_
 refine Cx.nil ⟨rfl, ?_⟩
 refine FinX.done (AllC.cons (AllC.cons (AllC.cons (AllC.map _)))) (Fin.go (wk1 9 rfl (Tr.seq (Tr.reg0 (cm rfl (cm rfl (Ch.nil (Fin.go (Tr.ret (Fin.then_ret ?_))))))))))
 refine Fin.closeH (sz := 4) 0 rfl (rows := ((l.take i ++ [x] ++ l.drop i).map rowId)) (sp := sp1.drop ((l.length + 1 - i) * 4)) (m := i + (l.length + 1 - i)) (ins_grownZ (a := i * 4) (z := 4) (Z := sp1.map is) (N := l.length * 4) hAl (by omega) rfl (by rw [List.length_map]; omega) (by omega) (by omega) (by omega) (by omega) (by rw [List.length_drop, List.length_map]; omega) (by rw [← List.map_drop, flat_dropN (f := rowId) (sz := 4) (fun _ => rfl), e2]) (by rw [List.map_drop, show (l.length + 1 - i) * 4 = l.length * 4 + 4 - i * 4 by omega, ← flat_insN (f := rowId) (sz := 4) (l := l) (i := i) (x := x) (fun _ => rfl)]; rfl)) (by simp only [List.length_map, List.length_append, List.length_take, List.length_drop, List.length_cons, List.length_nil]; omega) (by omega) hm1 (by rw [List.length_drop]; omega) ?_
 refine Fin.drop 1 ?_
 refine Fin.retM1 rfl rfl ?_ (by rintro _ _ _ rfl; rfl)
 · rintro _ _ _ rfl; exact ⟨_, _, by congr 1; omega⟩
 refine Tr.skip (Fin.go (Tr.seq (Tr.reg0 (cm rfl (cm rfl (cm rfl (cad rfl rfl rfl rfl (by omega) (co rfl (okb_sliceCap rfl Try.underlying33 sz55 ⟨_, rfl, andIs_is _ _⟩ (vl rfl) (by omega) (by omega) (by omega)) (cm rfl (Ch.nil (Fin.go (wk5 0 1 2 7 8 rfl (Tr.seq (Tr.seq ?_))))))))))))))
 refine Tr.regT ?_
 iterate 4 refine tm rfl ?_
 refine tp rfl (ok_add rfl (vl rfl) (vl rfl) ?hin) ?_; case hin => unfold InI; omega
 refine tp rfl (okb_sliceFrom rfl Try.underlying33 sz55 (vl rfl) (vl rfl) (by omega) (by omega) (by omega)) ?_
 refine TO.rd 0 rfl rfl rfl (by decide) (rd_overlaps (tR := 4) rfl Try.func148 (by kernel_rfl) (by kernel_rfl) (by kernel_rfl) (by kernel_rfl) Try.underlying33 sz55 (by decide) (vl rfl) (by exact Nat.zero_lt_succ _) (vl rfl) (by simp only [List.length_append, List.length_take, List.length_drop, List.length_map, hAl, hv1, hv2]; omega)) ?_
 refine tp rfl (ok_not rfl (vl rfl)) (TO.nil (Fin.go ?_))
 refine Tr.cn rfl ?_ ?_ <;> intro h4 q4
 refine Tr.seq (Tr.regX mixed [none, none, none, none, none, none, none, none, some (0, 0, true, 0)] (by kernel_rfl) (xm rfl (xm rfl (xm rfl ?_))))
 refine xo rfl (fun _ => ok_add rfl (vl rfl) (vl rfl) ?hin) ?_; case hin => unfold InI; omega
 refine xo rfl (fun _ => okb_sliceFrom rfl Try.underlying33 sz55 (vl rfl) (vl rfl) (by omega) (by omega) (by omega)) (xm rfl (xm rfl (xo rfl (fun _ => okb_sliceFrom rfl Try.underlying33 sz55 (vl rfl) (vl rfl) (by omega) (by omega) (by omega)) ?_)))
 refine Cx.ef 0 rfl rfl (by decide) (ef_copyB (m := l.length - i) rfl rfl rfl Try.underlying33 sz55 (vl rfl) (vl rfl) (by show _ = min _ _; omega) (by simp only [List.length_append, List.length_take, List.length_drop, List.length_map, hAl, hv1, hv2]; omega) (by simp only [List.length_append, List.length_take, List.length_drop, List.length_map, hAl, hv1, hv2]; omega) rfl) ?_
 refine Cx.nil ⟨rfl, ?_⟩
 refine FinX.done (AllC.cons (AllC.cons (AllC.map _))) (Fin.go (wk3 0 1 2 rfl (Tr.seq (Tr.regT (tm rfl (tm rfl (tp rfl (okb_sliceFrom rfl Try.underlying33 sz55 (vl rfl) (vl rfl) (by omega) (by omega) (by omega)) (tm rfl ?_))))))))
 refine TO.efc 0 rfl rfl (by decide) (ef_copyS rfl rfl rfl Try.underlying33 sz55 (by decide) (vl rfl) (vl rfl) (by omega) (by omega) (by simp only [List.length_append, List.length_take, List.length_drop, List.length_map, hAl, hv1, hv2]; omega) rfl) ?_
 refine TO.nil (Fin.go (Tr.seq (Tr.reg0 (cm rfl (cm rfl (Ch.nil (Fin.go (Tr.ret (Fin.then_ret ?_)))))))))
 refine Fin.closeH (sz := 4) 0 rfl (rows := ((l.take i ++ [x] ++ l.drop i).map rowId)) (sp := sp.drop 4) (m := l.length + 1) (ins_placeZ (a := i * 4) (z := 4) (S := sp.map is) (N := l.length * 4) hAl (by omega) rfl (by rw [List.length_map]; omega) (by omega) (by omega) (by omega) (by omega) (by omega) (by omega) (by rw [List.map_drop, ← flat_insN (f := rowId) (sz := 4) (l := l) (i := i) (x := x) (fun _ => rfl)]; rfl)) (by simp only [List.length_map, List.length_append, List.length_take, List.length_drop, List.length_cons, List.length_nil]; omega) (by omega) hm (by rw [List.length_drop]; omega) ?_
 refine Fin.retM1 rfl rfl ?_ (by rintro _ _ _ rfl; rfl)
 · rintro _ _ _ rfl; exact ⟨_, _, by rfl⟩
 exact absurd h4 (by decide)
theorem e_InsBn : Entry Try.prog 137 := ⟨_, Try.func137, rfl, rfl⟩
set_option maxRecDepth 20000 in
theorem w_InsEn {x : Idn}  : FunM Try.prog 137 [full 4 [], int ((0 : Nat) : Int), slice 4 [rowId x]] (lens 1) (noRes) (fun v => mutRes 55 4 [rowId x] v) := by
 refine FunM.of Try.func137 rfl rfl (by exact Nat.le_of_ble_eq_true rfl) fun M0 w0 S rs M1 w1 => ?_
 have hv1 : ([rowId x] : List (List Pr)).length = 1 := rfl
 refine Tr.seq (Tr.reg0 (cm rfl (Ch.nil (Fin.go (Tr.seq (Tr.reg0 (cm rfl (cm rfl (co rfl (ok_sliceFrom rfl Try.underlying33 sz55 ⟨_, rfl, full_le _ _⟩ (vl rfl) (by omega) (by omega)) (Ch.nil (Fin.go (Tr.seq (Tr.reg0 ?_)))))))))))))
 refine cm rfl (co rfl (ok_len rfl Try.underlying33 (vl rfl)) (cm rfl (Ch.nil (Fin.go (Tr.seq (Tr.seq (Tr.reg0 (cm rfl (co rfl (ki rfl rfl rfl rfl) (Ch.nil (Fin.go ?_)))))))))))
 refine Tr.cn rfl ?_ ?_ <;> intro h1 q1
 simp at h1
 refine Tr.skip (Fin.go (Tr.seq (Tr.reg0 (cm rfl (co rfl (ok_len rfl Try.underlying33 ⟨_, rfl, full_le _ _⟩) (cm rfl (Ch.nil (Fin.go (Tr.seq (Tr.seq (Tr.reg0 (cm rfl (cm rfl ?_)))))))))))))
 refine co rfl (ki rfl rfl rfl rfl) (Ch.nil (Fin.go (wk6 0 1 2 7 8 22 rfl ?_)))
 refine Tr.cn rfl ?_ ?_ <;> intro h2 q2
 refine Tr.seq (Tr.regT (tm rfl (tm rfl (TO.pad ?_))))
 refine TO.efs 0 rfl rfl (by decide) (ef_appvoid rfl rfl (by decide) rfl Try.underlying33 sz55 by55 z55 rfl (by decide) (by decide) (vl rfl) (vl rfl) (by simp) (by simp; unfold maxLen; omega) (by simp)) (fun v1 => ?_)
 refine tm rfl (TO.nil (Fin.go (Tr.ret (Fin.then_ret (Fin.drop 1 ?_)))))
 refine Fin.retM1 rfl rfl ?_ (by intro _ _ _ h; rw [h.1])
 · exact Pr.le_trans (andIs_le _ _) (Pr.le_refl _)
 exact absurd h2 (by decide)
theorem w_InsWn {l : List (Idn)} {x : Idn} {v : Value} {i : Nat} (hi : i ≤ l.length) (hl : l.length ≤ 1000000) : FunM Try.prog 137 [is v, int ((i : Nat) : Int), slice 4 [rowId x]] (slice 4 ((l.take i ++ [x] ++ l.drop i).map rowId)) (oweRes 55 4 (l.map rowId) v) (fun _ => noRes) := by
  refine FunM.frz (e := 55) (m := l.length + 1) (map_rows fun _ => rfl) (FunM.owe_cases e_InsBn (fun h0 => ?_) (fun b cap sp hc hm hq => ?_))
  · have hl0 : l = [] := by simpa using h0
    subst hl0
    have hi0 : i = 0 := by simpa using hi
    subst hi0
    exact FunM.own_of_mut w_InsEn
  · rw [List.length_map] at hc hq ⊢
    exact w_InsBn hi hl hc hm (by omega)
theorem w_DelWn {l : List (Idn)} {v : Value} {i : Nat} (hi : i < l.length) (hl : l.length ≤ 1000000) : FunM Try.prog 112 [is v, int ((i : Nat) : Int), int (((i : Nat) : Int) + 1)] (slice 4 ((l.eraseIdx i).map rowId)) (oweRes 55 4 (l.map rowId) v) (fun _ => noRes) := by
  refine FunM.frz (e := 55) (m := l.length - 1) (map_rows fun _ => rfl) (FunM.owe_cases e_DelBn (fun h0 => ?_) (fun b cap sp hc hm hq => ?_))
  · have hl0 : l = [] := by simpa using h0
    subst hl0; simp at hi
  · rw [List.length_map] at hc hq ⊢
    exact w_DelBn hi hl hc hm (by omega)


theorem w_IdxWi {l : List Int} {x : Int} {v : Value} : FunM Try.prog 98 [is v, int x] (int (idx (fun y => x == y) l)) (oweRes 3 1 (l.map fun n => [int n]) v) (fun _ => oweRes 3 1 (l.map fun n => [int n]) v) := FunM.owe_pure (map_rows fun _ => rfl) w_IndexI
end Go.Proofs.Ytflodcidhlmaaaa
namespace Go.Proofs.Ytflodcidhlmaaaa
open Go Go.RowKit Cp

/-- Its lists are of some length. -/
structure Idn.small (x : Idn) : Prop where
  chain : x.chain.length ≤ 1000000
  names : ∀ c ∈ x.chain, c.names.length ≤ 1000000

set_option maxRecDepth 20000 in
theorem w_copyId {x : Idn} (hx : x.small) : Fun Try.prog 74 [agg (rowId x)] (agg (rowId x)) := by
 refine Fun.of Try.func74 rfl rfl (by exact Nat.le_of_ble_eq_true rfl) fun M0 w0 => ?_
 have hch := hx.chain
 refine Tr.seq (Tr.regT ?_)
 refine TO.boxm rfl rfl (by decide) rfl (VL.le (vl rfl) (agg_cellsP _)) (fun b1 => ?_)
 refine TO.alloc rfl rfl (by decide) rfl z55 zo55 (fun b2 => ?_)
 refine TO.nil (Fin.go (Tr.seq (Tr.regT (tp rfl (okp_fieldAddr rfl fo55_2 (vl rfl)) (TO.rd 1 rfl rfl rfl (by decide) (rd_load1 rfl one53 (vl rfl) rfl) (TO.pad ?_))))))
 refine TO.efs 0 rfl rfl (by decide) (ef_call rfl rfl (by decide) rfl (w_CloneWc (l := x.chain) (by omega)) ⟨ke rfl, trivial⟩) (fun v1 => ?_)
 refine tp rfl (okp_fieldAddr rfl fo55_2 (vl rfl)) (TO.ef0 2 rfl rfl (ef_store rfl rfl (vl rfl) (VL.le (vl rfl) (one_cellsP _)) sz53 rfl (by exact Nat.le_of_ble_eq_true rfl) rfl) (TO.nil (Fin.go (Tr.seq (Tr.seq (Tr.reg0 (co rfl (okp_fieldAddr rfl fo55_2 (vl rfl)) (co rfl (ok_rd 2 rfl (rd_load1 rfl one53 (vl rfl) rfl)) (co rfl (ok_rd 0 rfl (rd_lenW rfl Try.underlying53 ⟨_, rfl, andIs_is _ _⟩)) (cm rfl (Ch.nil (Fin.go (Tr.block (Tr.re 11 rfl (int_eq (by rw [List.length_map])) ?_))))))))))))))
 refine Tr.loopw [(1, _), (2, _), (10, _), (11, _)] (kk4 rfl) (fun k : Nat => [(12, int ((k : Nat) : Int))]) (fun k : Nat => k ≤ (x.chain).length) (fun k : Nat => (x.chain).length - k) 0 (Nat.zero_le _) ⟨ke rfl, trivial⟩ ?_
 rintro k hle_k
 refine Tr.seq (Tr.reg0 (co rfl (ki rfl rfl rfl rfl) (Ch.nil (Fin.go (Tr.seq ?_)))))
 refine Tr.cn rfl ?_ ?_ <;> intro h1 q1
 have hk_k : k < (x.chain).length := lt_of_dec h1
 obtain ⟨c, hx_k⟩ := at_ hk_k
 have hcn := hx.names c (List.mem_of_getElem? hx_k)
 refine Tr.skip (Fin.go (Tr.seq (Tr.block (Tr.seq (Tr.regT (tm rfl ?_))))))
 refine tp rfl (ok_rd 0 rfl (rd_elp rfl Try.underlying53 sz91 ⟨_, rfl, andIs_is _ _⟩ (vl rfl) (by omega) (by rw [List.length_map]; omega))) ?_
 refine tp rfl (ok_rd 0 rfl (rd_elload rfl agg91 sz91 (vl rfl) (map_rows fun _ => rfl) (by rw [Int.toNat_natCast, List.getElem?_map, hx_k]; rfl))) ?_
 refine TO.alloc rfl rfl (by decide) rfl z91 zo91 (fun b3 => ?_)
 refine tm rfl (TO.store_all 0 rfl rfl rfl (vl rfl) (VL.le (vl rfl) (agg_cellsP _)) rfl sz91 rfl rfl (TO.freeze 0 4 rfl rfl (TO.nil (Fin.go (Tr.regX mixed [none, some (0, 2, false, 0), none, none, none, none, some (0, 0, false, 0), none, some (0, 0, true, 0)] (by kernel_rfl) (xo rfl (fun _ => okp_fieldAddr rfl fo55_2 (vl rfl)) (xrd 2 rfl rfl (rd_load1 rfl one53 (vl rfl) rfl) (xm rfl (xo rfl (fun _ => kfa rfl fo91_10 rfl rfl) (xo rfl (fun _ => kl1 rfl one62 rfl) (xo rfl (fun _ => ok_call rfl (w_CloneFs hcn) ⟨ke rfl, trivial⟩) ?_)))))))))))
 refine xrd 0 rfl rfl (rd_elp rfl Try.underlying53 sz91 ⟨_, rfl, andIs_is _ _⟩ (vl rfl) (by omega) (by rw [List.length_map]; omega)) ?_
 refine xo rfl (fun _ => ok_elfield rfl fo91_10 (vl rfl)) ?_
 refine Cx.ef0 0 rfl rfl (ef_elstore rfl rfl (vl rfl) (VL.le (vl rfl) (one_cellsP _)) sz62 rfl (map_rows fun _ => rfl) (by rw [Int.toNat_natCast, List.getElem?_map, hx_k]; rfl) (by decide) (row_setI (f := rowCr) hx_k rfl)) ?_
 refine Cx.nil ⟨rfl, ?_⟩
 refine FinX.done (AllC.cons (AllC.cons (AllC.cons (AllC.map _)))) (Fin.block (Fin.go (wk5 1 2 10 11 12 rfl (Tr.reg0 (cad rfl rfl rfl rfl (by omega) (cm rfl (Ch.nil (Fin.fam_same (k + 1) ⟨hk_k, by omega⟩ ⟨⟨_, rfl, int_succ k⟩, ke rfl, ke rfl, ke rfl, ke rfl, trivial⟩))))))))
 have he_k : k = (x.chain).length := by have := ge_of_dec h1; omega
 subst he_k
 refine Tr.exit (Fin.then_exit (Fin.then_exit (Fin.block_here (Fin.go (Tr.seq (Tr.frzWC 2 0 3 rfl rfl (by decide) rfl (andIs_is _ _) (map_rows fun _ => rfl) (Tr.regT (TO.rd 2 rfl rfl rfl (by decide) (rd_loadA rfl agg55 sz55 (vl rfl) rfl rfl) (TO.store_all 1 rfl rfl rfl (vl rfl) (VL.le (vl rfl) (agg_cellsP _)) rfl sz55 rfl rfl (TO.nil (Fin.go (Tr.drop 0 (Tr.drop 1 (Tr.ret ?_))))))))))))))
 refine Fin.retX1 rfl (RVal.cell 0 rfl rfl agg55 sz55 rfl (Pr.le_refl _)) ?_
 · exact Pr.le_refl _
end Go.Proofs.Ytflodcidhlmaaaa
namespace Go.Proofs.Ytflodcidhlmaaaa
open Go Go.RowKit Cp

/-- A change. -/
structure Chg where
  endpoint : Int
  kind : Int
  number : Int
  at_ : Int
  idn : Idn
abbrev rowChg (c : Chg) : List Pr := [int c.endpoint, int c.kind, int c.number, int c.at_, int c.idn.alg, int c.idn.bits, int c.idn.keyId, certs c.idn.chain]
abbrev rowWt (c b : Chg) : List Pr := [int c.endpoint, int c.kind, int c.number, int c.at_, int c.idn.alg, int c.idn.bits, int c.idn.keyId, certs c.idn.chain, int b.endpoint, int b.kind, int b.number, int b.at_, int b.idn.alg, int b.idn.bits, int b.idn.keyId, certs b.idn.chain]
abbrev rowO (e : Ept) (p3 p5 p6 p7 : Pr) : List Pr := [str e.name, int e.least, int e.most, p3, bool e.own, p5, p6, p7, bool e.fall]
abbrev resW (wb ob : Nat) (c b : Chg) : Res := cellsRes true wb 112 (ptr ob 0 :: rowWt c b)
abbrev resO (ob : Nat) (e : Ept) (p3 p5 p6 p7 : Pr) : Res := cellsRes true ob 35 (rowO e p3 p5 p6 p7)
def keyIdx (key : Int) (l : List Idn) : Int := idx (fun x => x.keyId == key) l
theorem idx_hit {β : Type} {p : β → Bool} {l : List β} (h : 0 ≤ idx p l) : ∃ x, l[(idx p l).toNat]? = some x ∧ p x = true ∧ (idx p l).toNat < l.length := by
  unfold idx at *
  cases hf : l.findIdx? p with
  | none => rw [hf] at h; simp at h
  | some i =>
    rw [List.findIdx?_eq_some_iff_getElem] at hf
    obtain ⟨h1, h2, _⟩ := hf
    refine ⟨l[i], ?_, h2, by simpa using h1⟩
    simp

set_option maxRecDepth 20000 in
theorem w_idn1 {key : Int} {x : Idn}  : Fun Try.prog 136 [agg (rowId x), ref [int key]] (bool (x.keyId == key)) := by
 refine Fun.of Try.func136 rfl rfl (by exact Nat.le_of_ble_eq_true rfl) fun M0 w0 => ?_
 refine Tr.seq (Tr.reg0 (co rfl (ok_box rfl (VL.le (vl rfl) (agg_cellsP _))) (cm rfl (Ch.nil (Fin.go (Tr.seq (Tr.reg0 (co rfl (kfa rfl fo55_1 rfl rfl) (co rfl (kl1 rfl one3 rfl) (co rfl (kl1 rfl one3 rfl) (co rfl (ki rfl rfl rfl rfl) (cm rfl (Ch.nil (Fin.go ?_))))))))))))))
 refine Tr.ret (Fin.ret1 rfl (OutW.bse _ _) rfl ?_)
 · exact Pr.le_refl _
theorem e_idn1 : Entry Try.prog 136 := ⟨_, Try.func136, rfl, rfl⟩
set_option maxRecDepth 20000 in
theorem w_idn0 {e : Ept} {key : Int} {wps : List Pr}  : Fun Try.prog 108 [ref (ref (rowEp e) :: wps), int key] (int (keyIdx key e.ids)) := by
 refine Fun.of Try.func108 rfl rfl (by exact Nat.le_of_ble_eq_true rfl) fun M0 w0 => ?_
 refine Tr.seq (Tr.reg0 (co rfl (ok_box rfl (VL.le (vl rfl) (one_cellsP _))) (cm rfl (Ch.nil (Fin.go (Tr.seq (Tr.reg0 (cm rfl (co rfl (ok_nilCheck_ref rfl (vl rfl)) (co rfl (kfa rfl fo112_0 rfl rfl) (co rfl (kl1 rfl one110 rfl) (co rfl (ok_nilCheck_ref rfl (vl rfl)) (co rfl (kfa rfl fo35_5 rfl rfl) ?_)))))))))))))
 refine co rfl (kl1 rfl one33 rfl) (co rfl (ok_makeFunc rfl rfl) ?_)
 refine co rfl (ok_call rfl (w_IdxN (l := e.ids) (p := fun x => x.keyId == key)) ⟨ke rfl, ⟨_, rfl, fn_le_clo (dom := fun x : Idn => [agg (rowId x)]) (res := fun x => bool (x.keyId == key)) e_idn1 (fun x => w_idn1 (key := key) (x := x))⟩, trivial⟩) ?_
 refine cm rfl (Ch.nil (Fin.go (Tr.ret (Fin.ret1 rfl (OutW.bse _ _) rfl ?_))))
 · exact Pr.le_refl _
set_option maxRecDepth 20000 in
theorem w_drop1 {c b : Chg} {x : Idn} {q : Pr}  : Fun Try.prog 111 [agg (rowId x), ref [ref (q :: rowWt c b)]] (bool (x.keyId == c.number)) := by
 refine Fun.of Try.func111 rfl rfl (by exact Nat.le_of_ble_eq_true rfl) fun M0 w0 => ?_
 refine Tr.seq (Tr.reg0 (co rfl (ok_box rfl (VL.le (vl rfl) (agg_cellsP _))) (cm rfl (Ch.nil (Fin.go (Tr.seq (Tr.reg1 mixed (by kernel_rfl) (co rfl (kfa rfl fo55_1 rfl rfl) (co rfl (kl1 rfl one3 rfl) (co rfl (kl1 rfl one109 rfl) (co rfl (ok_nilCheck_ref rfl (vl rfl)) (co rfl (kfa rfl fo112_1 rfl rfl) (co rfl (kfa rfl fo58_2 rfl rfl) ?_)))))))))))))
 refine co rfl (kl1 rfl one3 rfl) (co rfl (ki rfl rfl rfl rfl) (cm rfl (Ch.nil (Fin.go (Tr.ret (Fin.ret1 rfl (OutW.bse _ _) rfl ?_))))))
 · exact Pr.le_refl _
theorem e_drop1 : Entry Try.prog 111 := ⟨_, Try.func111, rfl, rfl⟩

theorem w_idn {e : Ept} {c b : Chg} {wb ob : Nat} {p3 p6 p7 : Pr} {v : Value} {key : Int} (h3 : p3 = ints e.suites) (h6 : p6 = ints e.anchors) (h7 : p7 = ints e.hashes) : FunD Try.prog 108 [ptr wb 0, int key] [resW wb ob c b, resO ob e p3 (is v) p6 p7, oweRes 55 4 (e.ids.map rowId) v] (int (keyIdx key e.ids)) [resW wb ob c b, resO ob e p3 (is v) p6 p7, oweRes 55 4 (e.ids.map rowId) v] := by
  subst h3; subst h6; subst h7
  exact FunD.look (k := 5) (rows := rowEp e) (sz := 4) rfl (map_rows fun _ => rfl) rfl w_idn0
theorem w_twice {l : List Idn} {c b : Chg} {wb ob : Nat} {v : Value} {k : Nat} : FunD Try.prog 110 [Cp.part 4 v k, fn (.func 111) [ref [ptr wb 0]]] [resW wb ob c b, oweRes 55 4 (l.map rowId) v] (bool ((l.drop k).any fun x => x.keyId == c.number)) [resW wb ob c b, oweRes 55 4 (l.map rowId) v] := by
 refine FunD.lookPart (map_rows fun _ => rfl) ?_
 refine Fun.le (w_HasN (l := l.drop k) (p := fun x => x.keyId == c.number)) ?_ (Pr.le_refl _)
 intro M w vs hv
 match vs, hv with
 | [u0, u1], hv1 =>
  exact ⟨by have := hv1.1; rw [← List.map_drop] at this; exact this, fn_le_clo (dom := fun x : Idn => [agg (rowId x)]) (res := fun x => bool (x.keyId == c.number)) e_drop1 (fun x => w_drop1 (c := c) (b := b) (x := x)) _ _ _ hv1.2.1, trivial⟩

set_option maxRecDepth 20000 in
theorem w_dropSuiteY {e : Ept} {c b : Chg} {wb ob : Nat} {v : Value} {p5 p6 p7 : Pr}  (h : 0 ≤ (idx (fun y => c.number == y) e.suites)) (hs : e.suites.length ≤ 1000000) : FunD Try.prog 79 [ptr wb 0] [resW wb ob c b, resO ob e (is v) p5 p6 p7, oweRes 3 1 (e.suites.map fun n => [int n]) v] (int 0) [resW wb ob c ⟨b.endpoint, 1, c.number, (idx (fun y => c.number == y) e.suites), b.idn⟩, resO ob e (ints (e.suites.eraseIdx (idx (fun y => c.number == y) e.suites).toNat)) p5 p6 p7] := by
 refine FunD.of Try.func79 rfl rfl (by exact Nat.le_of_ble_eq_true rfl) fun M0 w0 S rs M1 w1 => ?_
 obtain ⟨x_, hx_, _, hlt_⟩ := idx_hit h
 refine Tr.seq (Tr.reg0 (cm rfl (Ch.nil (Fin.go (Tr.seq (Tr.regX mixed [none, none, none, some (0, 0, false, 0), none, none, some (0, 1, false, 0), none, none, none, none, some (0, 0, false, 0), some (0, 2, true, 0), none] (by kernel_rfl) (xm rfl (xo rfl (fun _ => okp_nilCheck rfl (vl rfl)) (xo rfl (fun _ => okp_fieldAddr rfl fo112_0 (vl rfl)) (xrd 0 rfl rfl (rd_load1 rfl one110 (vl rfl) rfl) (xo rfl (fun _ => okp_nilCheck rfl (vl rfl)) (xo rfl (fun _ => okp_fieldAddr rfl fo35_3 (vl rfl)) (xrd 1 rfl rfl (rd_load1 rfl one22 (vl rfl) rfl) ?_)))))))))))))
 refine xm rfl (xo rfl (fun _ => okp_nilCheck rfl (vl rfl)) (xo rfl (fun _ => okp_fieldAddr rfl fo112_1 (vl rfl)) (xo rfl (fun _ => okp_fieldAddr rfl fo58_2 (vl rfl)) (xrd 0 rfl rfl (rd_load1 rfl one3 (vl rfl) rfl) (Cx.ef 2 rfl rfl (by decide) (ef_callc rfl rfl (by decide) rfl (w_IdxWi) ⟨ke rfl, ke rfl, trivial⟩) (xm rfl ?_))))))
 refine Cx.nil ⟨rfl, ?_⟩
 refine FinX.done (AllC.cons (AllC.cons (AllC.cons (AllC.cons (AllC.map _))))) (Fin.go (wk2 0 3 rfl (Tr.seq (Tr.seq (Tr.reg0 (cm rfl (co rfl (ki rfl rfl rfl rfl) (Ch.nil (Fin.go ?_)))))))))
 refine Tr.cn rfl ?_ ?_ <;> intro h1 q1
 exfalso; have := q1; omega
 refine Tr.skip (Fin.go (Tr.seq (Tr.regX mixed [none, none, none, some (0, 0, false, 0), none, none, none, some (0, 0, false, 0), none, none, some (0, 1, false, 0), none, none, none, some (0, 2, true, 0), none, none, some (0, 1, true, 0)] (by kernel_rfl) (xm rfl (xo rfl (fun _ => okp_nilCheck rfl (vl rfl)) (xo rfl (fun _ => okp_fieldAddr rfl fo112_0 (vl rfl)) (xrd 0 rfl rfl (rd_load1 rfl one110 (vl rfl) rfl) (xm rfl (xo rfl (fun _ => okp_nilCheck rfl (vl rfl)) (xo rfl (fun _ => okp_fieldAddr rfl fo112_0 (vl rfl)) (xrd 0 rfl rfl (rd_load1 rfl one110 (vl rfl) rfl) (xo rfl (fun _ => okp_nilCheck rfl (vl rfl)) (xo rfl (fun _ => okp_fieldAddr rfl fo35_3 (vl rfl)) ?_)))))))))))))
 refine xrd 1 rfl rfl (rd_load1 rfl one22 (vl rfl) rfl) (xm rfl (xm rfl ?_))
 refine xo rfl (fun _ => ok_add rfl (vl rfl) (vl rfl) ?hin) ?_; case hin => unfold InI; omega
 refine Cx.ef 2 rfl rfl (by decide) (ef_callc rfl rfl (by decide) rfl (w_DelWi (l := e.suites) (i := (idx (fun y => c.number == y) e.suites).toNat) (by omega) hs) ⟨ke rfl, ⟨_, rfl, int_eq (by omega)⟩, ⟨_, rfl, int_eq (by omega)⟩, trivial⟩) ?_
 refine xo rfl (fun _ => okp_nilCheck rfl (vl rfl)) (xo rfl (fun _ => okp_fieldAddr rfl fo35_3 (vl rfl)) (Cx.ef0 1 rfl rfl (ef_store rfl rfl (vl rfl) (VL.le (vl rfl) (one_cellsP _)) sz22 rfl (by exact Nat.le_of_ble_eq_true rfl) rfl) ?_))
 refine Cx.nil ⟨rfl, ?_⟩
 refine FinX.done (AllC.cons (AllC.cons (AllC.cons (AllC.cons (AllC.map _))))) (Fin.go (wk2 0 3 rfl (Tr.seq (Tr.regT ?_))))
 iterate 4 refine tm rfl ?_
 refine tp rfl (okp_nilCheck rfl (vl rfl)) (tp rfl (okp_fieldAddr rfl fo112_1 (vl rfl)) (tp rfl (okp_fieldAddr rfl fo58_2 (vl rfl)) (TO.rd 0 rfl rfl rfl (by decide) (rd_load1 rfl one3 (vl rfl) rfl) (tm rfl (tp rfl (okp_nilCheck rfl (vl rfl)) (tp rfl (okp_fieldAddr rfl fo112_2 (vl rfl)) (tp rfl (okp_fieldAddr rfl fo58_1 (vl rfl)) (TO.ef0 0 rfl rfl (ef_store rfl rfl (vl rfl) (VL.le (vl rfl) (one_cellsP _)) sz3 rfl (by exact Nat.le_of_ble_eq_true rfl) rfl) (tp rfl (okp_nilCheck rfl (vl rfl)) (tp rfl (okp_fieldAddr rfl fo112_2 (vl rfl)) (tp rfl (okp_fieldAddr rfl fo58_2 (vl rfl)) (TO.ef0 0 rfl rfl (ef_store rfl rfl (vl rfl) (VL.le (vl rfl) (one_cellsP _)) sz3 rfl (by exact Nat.le_of_ble_eq_true rfl) rfl) (tp rfl (okp_nilCheck rfl (vl rfl)) ?_)))))))))))))
 refine tp rfl (okp_fieldAddr rfl fo112_2 (vl rfl)) (tp rfl (okp_fieldAddr rfl fo58_3 (vl rfl)) (TO.ef0 0 rfl rfl (ef_store rfl rfl (vl rfl) (VL.le (vl rfl) (one_cellsP _)) sz3 rfl (by exact Nat.le_of_ble_eq_true rfl) rfl) (TO.nil (Fin.go (Tr.weak [] trivial (Tr.seq (Tr.reg0 (cm rfl (Ch.nil (Fin.go (Tr.ret (Fin.drop 2 (Fin.retD rfl (RVal.tmp rfl (Pr.le_refl _)) ?_ (List.Perm.refl _))))))))))))))
 · exact Pr.le_refl _
set_option maxRecDepth 20000 in
theorem w_insNOk {e : Ept} {x : Idn} {at_ : Int} {ob : Nat} {v : Value} {p3 p6 p7 : Pr}  (hr : 0 ≤ at_ ∧ at_ ≤ (e.ids.length : Nat)) (hl : e.ids.length ≤ 1000000) : FunD Try.prog 109 [ptr ob 5, int at_, agg (rowId x)] [resO ob e p3 (is v) p6 p7, oweRes 55 4 (e.ids.map rowId) v] (int 0) [resO ob e p3 (idns (e.ids.take at_.toNat ++ [x] ++ e.ids.drop at_.toNat)) p6 p7] := by
 refine FunD.of Try.func109 rfl rfl (by exact Nat.le_of_ble_eq_true rfl) fun M0 w0 S rs M1 w1 => (Tr.seq ?_)
 have hml : (e.ids.map rowId).length = e.ids.length := List.length_map _
 refine Tr.reg0 (co rfl (ok_box rfl (VL.le (vl rfl) (agg_cellsP _))) (cm rfl (Ch.nil (Fin.go (Tr.seq (Tr.seq (Tr.reg0 (cm rfl (co rfl (ki rfl rfl rfl rfl) (cm rfl ?_))))))))))
 refine Ch.cs 9 rfl ?_ ?_ <;> intro h1 q1
 exfalso; have := q1; omega
 refine cym h1 rfl (cym h1 rfl (cy h1 rfl (okp_nilCheck rfl (vl rfl)) (cy h1 rfl (ok_rd 0 rfl (rd_load1 rfl one33 (vl rfl) rfl)) (cy h1 rfl (ok_rd 1 rfl (rd_lenW rfl Try.underlying33 (vl rfl))) (cy h1 rfl (ki rfl rfl rfl rfl) (co rfl (kpf rfl rfl h1 rfl) (Ch.nil (Fin.go ?_))))))))
 refine Tr.cn rfl ?_ ?_ <;> intro h2 q2
 exfalso; simp_all; omega
 refine Tr.skip (Fin.go (Tr.seq (Tr.regX mixed [none, none, none, some (0, 0, false, 0), none, none, none, some (0, 1, true, 0), none, some (0, 0, true, 0)] (by kernel_rfl) (xm rfl (xm rfl (xo rfl (fun _ => okp_nilCheck rfl (vl rfl)) (xrd 0 rfl rfl (rd_load1 rfl one33 (vl rfl) rfl) (xm rfl (xo rfl (fun _ => ok_loadA rfl agg55 sz55 (vl rfl) rfl rfl) (xo rfl (fun _ => ok_buildSlice (xs := [.tmp 22]) (rows := [_]) rfl rfl Try.underlying33 sz55 z55 rfl (by decide) ⟨⟨(by exact rfl), (VL.le (vl rfl) (agg_cellsP _))⟩, trivial⟩ (by decide)) ?_))))))))))
 refine Cx.ef 1 rfl rfl (by decide) (ef_callc rfl rfl (by decide) rfl (w_InsWn (l := e.ids) (x := x) (i := at_.toNat) (by omega) hl) ⟨ke rfl, ⟨_, rfl, int_eq (by omega)⟩, ⟨_, rfl, full_le _ _⟩, trivial⟩) ?_
 refine xo rfl (fun _ => okp_nilCheck rfl (vl rfl)) (Cx.ef0 0 rfl rfl (ef_store rfl rfl (vl rfl) (VL.le (vl rfl) (one_cellsP _)) sz33 rfl (by exact Nat.le_of_ble_eq_true rfl) rfl) ?_)
 refine Cx.nil ⟨rfl, ?_⟩
 refine FinX.done (AllC.cons (AllC.cons (AllC.cons (AllC.map _)))) (Fin.go (Tr.weak [] trivial (Tr.seq (Tr.reg0 (cm rfl (Ch.nil (Fin.go (Tr.ret (Fin.drop 1 (Fin.retD rfl (RVal.tmp rfl (Pr.le_refl _)) ?_ (List.Perm.refl _)))))))))))
 · exact Pr.le_refl _
theorem FunD.perm {P : Program} {f : FuncId} {args : List Pr} {pre post post' : List Res} {res : Pr} (h : FunD P f args pre res post) (hp : post.Perm post') : FunD P f args pre res post' :=
  ⟨h.1, fun M0 w0 S rs M w vs hI hv => (h.2 M0 w0 S rs M w vs hI hv).mono fun _e _w' ⟨v, M', x, h1, h2, h3, h4, h5⟩ => ⟨v, M', x, h1, h2, h3, h4, HpH.perm (hp.append_right rs) h5⟩⟩

set_option maxRecDepth 20000 in
theorem w_addIdnT {e : Ept} {c b : Chg} {wb ob : Nat} {v : Value}  (hx : c.idn.small) (hr : 0 ≤ c.at_ ∧ c.at_ ≤ (e.ids.length : Nat)) (hl : e.ids.length ≤ 1000000) (h : 0 ≤ keyIdx c.idn.keyId e.ids) : FunD Try.prog 82 [ptr wb 0] [resW wb ob c b, resO ob e (ints e.suites) (is v) (ints e.anchors) (ints e.hashes), oweRes 55 4 (e.ids.map rowId) v] (int 41) [] := by
 refine FunD.of Try.func82 rfl rfl (by exact Nat.le_of_ble_eq_true rfl) fun M0 w0 S rs M1 w1 => (Tr.seq (Tr.reg0 (cm rfl (Ch.nil (Fin.go (Tr.seq (Tr.regT (tm rfl (tm rfl (tp rfl (okp_nilCheck rfl (vl rfl)) (tp rfl (okp_fieldAddr rfl fo112_1 (vl rfl)) (tp rfl (okp_fieldAddr rfl fo58_4 (vl rfl)) (tp rfl (okp_fieldAddr rfl fo55_1 (vl rfl)) ?_)))))))))))))
 refine TO.rd 0 rfl rfl rfl (by decide) (rd_load1 rfl one3 (vl rfl) rfl) ?_
 refine TO.callD _ rfl rfl (by decide) rfl (w_idn (e := e) (c := c) (b := b) (key := c.idn.keyId) rfl rfl rfl) ⟨ke rfl, ke rfl, trivial⟩ ((perm_at (j := 0) rfl).trans (List.Perm.cons _ ((perm_at (j := 0) rfl).trans (List.Perm.cons _ ((perm_at (j := 0) rfl).trans (List.Perm.cons _ (List.Perm.refl _))))))) ?_
 refine tp rfl (ki rfl rfl rfl rfl) (tm rfl (TO.nil (Fin.go (Tr.seq (Tr.seq (Tr.regOne mixed 17 (by kernel_rfl) (ChOne.op rfl rfl (by decide) (ok_move rfl (vl rfl)) (ChOne.op rfl rfl (by decide) (okp_nilCheck rfl (vl rfl)) (ChOne.op rfl rfl (by decide) (okp_fieldAddr rfl fo112_0 (vl rfl)) (ChOne.op rfl rfl (by decide) (ok_rd 0 rfl (rd_load1 rfl one110 (vl rfl) rfl)) (ChOne.op rfl rfl (by decide) (okp_nilCheck rfl (vl rfl)) (ChOne.op rfl rfl (by decide) (okp_fieldAddr rfl fo35_5 (vl rfl)) (ChOne.op rfl rfl (by decide) (ok_move rfl (vl rfl)) ?_)))))))))))))
 refine ChOne.op rfl rfl (by decide) (okp_nilCheck rfl (vl rfl)) (ChOne.op rfl rfl (by decide) (okp_fieldAddr rfl fo112_1 (vl rfl)) (ChOne.op rfl rfl (by decide) (okp_fieldAddr rfl fo58_3 (vl rfl)) (ChOne.op rfl rfl (by decide) (ok_rd 0 rfl (rd_load1 rfl one3 (vl rfl) rfl)) (ChOne.op rfl rfl (by decide) (ok_move rfl (vl rfl)) (ChOne.op rfl rfl (by decide) (okp_nilCheck rfl (vl rfl)) (ChOne.op rfl rfl (by decide) (okp_fieldAddr rfl fo112_1 (vl rfl)) (ChOne.op rfl rfl (by decide) (okp_fieldAddr rfl fo58_4 (vl rfl)) (ChOne.op rfl rfl (by decide) (ok_rd 0 rfl (rd_loadA rfl agg55 sz55 (vl rfl) rfl rfl)) ?_))))))))
 refine ChOne.op rfl rfl (by decide) (ok_call rfl (w_copyId (x := c.idn) hx) ⟨ke rfl, trivial⟩) ?_
 refine ChOne.turn _ rfl (by decide) (turn_call _ rfl rfl (w_insNOk (e := e) (x := c.idn) (at_ := c.at_) hr hl) ⟨ke rfl, ke rfl, ke rfl, trivial⟩ ((perm_at (j := 1) rfl).trans (List.Perm.cons _ ((perm_at (j := 1) rfl).trans (List.Perm.cons _ (List.Perm.refl _)))))) ?_
 refine cm rfl (Ch.nil (Fin.go (wk3 0 3 4 rfl (Tr.seq (Tr.reg0 (cm rfl (co rfl (ki rfl rfl rfl rfl) (Ch.nil (Fin.go ?_)))))))))
 refine Tr.cn rfl ?_ ?_ <;> intro h1 q1
 exact absurd h1 (by decide)
 refine Tr.skip (Fin.go (Tr.seq (Tr.seq (Tr.reg0 (cm rfl (Ch.nil (Fin.go ?_)))))))
 refine Tr.cn rfl ?_ ?_ <;> intro h2 q2
 refine Tr.seq (Tr.reg0 (cm rfl (Ch.nil (Fin.go (Tr.ret (Fin.then_ret (Fin.drop 0 (Fin.drop 0 (Fin.retD rfl (RVal.tmp rfl (Pr.le_refl _)) ?_ (List.Perm.refl _))))))))))
 · exact Pr.le_refl _
 exfalso; have := q2; omega
set_option maxRecDepth 20000 in
theorem w_dropIdnT {e : Ept} {c b : Chg} {wb ob : Nat} {v : Value} {x : Idn}  (h : 0 ≤ keyIdx c.number e.ids) (hx : e.ids[(keyIdx c.number e.ids).toNat]? = some x) (ht : ((e.ids.drop (keyIdx c.number e.ids + 1).toNat).any fun x => x.keyId == c.number) = true) (hl : e.ids.length ≤ 1000000) : FunD Try.prog 83 [ptr wb 0] [resW wb ob c b, resO ob e (ints e.suites) (is v) (ints e.anchors) (ints e.hashes), oweRes 55 4 (e.ids.map rowId) v] (int 5) [] := by
 refine FunD.of Try.func83 rfl rfl (by exact Nat.le_of_ble_eq_true rfl) fun M0 w0 S rs M1 w1 => ?_
 have hlt := lt_of_at hx
 refine Tr.seq (Tr.reg0 (co rfl (ok_box rfl (VL.le (vl rfl) (one_cellsP _))) (cm rfl (Ch.nil (Fin.go (Tr.seq (Tr.regOne mixed 6 (by kernel_rfl) (ChOne.op rfl rfl (by decide) (kl1 rfl one109 rfl) (ChOne.op rfl rfl (by decide) (kl1 rfl one109 rfl) (ChOne.op rfl rfl (by decide) (okp_nilCheck rfl (vl rfl)) (ChOne.op rfl rfl (by decide) (okp_fieldAddr rfl fo112_1 (vl rfl)) (ChOne.op rfl rfl (by decide) (okp_fieldAddr rfl fo58_2 (vl rfl)) (ChOne.op rfl rfl (by decide) (ok_rd 0 rfl (rd_load1 rfl one3 (vl rfl) rfl)) ?_)))))))))))))
 refine ChOne.turn _ rfl (by decide) (turn_call _ rfl rfl (w_idn (e := e) (c := c) (b := b) (key := c.number) rfl rfl rfl) ⟨ke rfl, ke rfl, trivial⟩ ((perm_at (j := 0) rfl).trans (List.Perm.cons _ ((perm_at (j := 0) rfl).trans (List.Perm.cons _ ((perm_at (j := 0) rfl).trans (List.Perm.cons _ (List.Perm.refl _)))))))) ?_
 refine cm rfl (Ch.nil (Fin.go (Tr.seq (Tr.seq (Tr.reg0 (cm rfl (co rfl (ki rfl rfl rfl rfl) (Ch.nil (Fin.go ?_)))))))))
 refine Tr.cn rfl ?_ ?_ <;> intro h1 q1
 exfalso; have := q1; omega
 refine Tr.skip (Fin.go (Tr.seq (Tr.seq (Tr.regT (tp rfl (kl1 rfl one109 rfl) (tp rfl (okp_nilCheck rfl (vl rfl)) (tp rfl (okp_fieldAddr rfl fo112_0 (vl rfl)) (TO.rd 0 rfl rfl rfl (by decide) (rd_load1 rfl one110 (vl rfl) rfl) (tp rfl (okp_nilCheck rfl (vl rfl)) (tp rfl (okp_fieldAddr rfl fo35_5 (vl rfl)) (TO.rd 1 rfl rfl rfl (by decide) (rd_load1 rfl one33 (vl rfl) rfl) (tm rfl ?_))))))))))))
 refine tp rfl (ok_add rfl (vl rfl) (vl rfl) ?hin) ?_; case hin => unfold InI; omega
 refine tp rfl (ok_rd 2 rfl (rd_part rfl Try.underlying33 sz55 (vl rfl) (vl rfl) (by omega) (by rw [List.length_map]; omega))) ?_
 refine tp rfl (ok_makeFunc rfl rfl) ?_
 refine TO.callD _ rfl rfl (by decide) rfl (w_twice (l := e.ids) (c := c) (b := b) (k := (keyIdx c.number e.ids + 1).toNat)) ⟨ke rfl, ke rfl, trivial⟩ ((perm_at (j := 0) rfl).trans (List.Perm.cons _ ((perm_at (j := 1) rfl).trans (List.Perm.cons _ (List.Perm.refl _))))) ?_
 refine TO.nil (Fin.go (wk3 1 3 24 rfl ?_))
 refine Tr.cn rfl ?_ ?_ <;> intro h2 q2
 refine Tr.seq (Tr.reg0 (cm rfl (Ch.nil (Fin.go (Tr.ret (Fin.then_ret (Fin.drop 0 (Fin.drop 0 (Fin.drop 0 (Fin.retD rfl (RVal.tmp rfl (Pr.le_refl _)) ?_ (List.Perm.refl _)))))))))))
 · exact Pr.le_refl _
 rw [ht] at h2; exact absurd h2 (by decide)
set_option maxRecDepth 20000 in
theorem w_dropIdnY {e : Ept} {c b : Chg} {wb ob : Nat} {v : Value} {x : Idn}  (h : 0 ≤ keyIdx c.number e.ids) (hx : e.ids[(keyIdx c.number e.ids).toNat]? = some x) (ht : ((e.ids.drop (keyIdx c.number e.ids + 1).toNat).any fun x => x.keyId == c.number) = false) (hl : e.ids.length ≤ 1000000) : FunD Try.prog 83 [ptr wb 0] [resW wb ob c b, resO ob e (ints e.suites) (is v) (ints e.anchors) (ints e.hashes), oweRes 55 4 (e.ids.map rowId) v] (int 0) [resW wb ob c ⟨b.endpoint, 5, b.number, keyIdx c.number e.ids, x⟩, resO ob e (ints e.suites) (idns (e.ids.eraseIdx (keyIdx c.number e.ids).toNat)) (ints e.anchors) (ints e.hashes)] := by
 refine FunD.of Try.func83 rfl rfl (by exact Nat.le_of_ble_eq_true rfl) fun M0 w0 S rs M1 w1 => ?_
 have hlt := lt_of_at hx
 refine Tr.seq (Tr.reg0 (co rfl (ok_box rfl (VL.le (vl rfl) (one_cellsP _))) (cm rfl (Ch.nil (Fin.go (Tr.seq (Tr.regOne mixed 6 (by kernel_rfl) (ChOne.op rfl rfl (by decide) (kl1 rfl one109 rfl) (ChOne.op rfl rfl (by decide) (kl1 rfl one109 rfl) (ChOne.op rfl rfl (by decide) (okp_nilCheck rfl (vl rfl)) (ChOne.op rfl rfl (by decide) (okp_fieldAddr rfl fo112_1 (vl rfl)) (ChOne.op rfl rfl (by decide) (okp_fieldAddr rfl fo58_2 (vl rfl)) (ChOne.op rfl rfl (by decide) (ok_rd 0 rfl (rd_load1 rfl one3 (vl rfl) rfl)) ?_)))))))))))))
 refine ChOne.turn _ rfl (by decide) (turn_call _ rfl rfl (w_idn (e := e) (c := c) (b := b) (key := c.number) rfl rfl rfl) ⟨ke rfl, ke rfl, trivial⟩ ((perm_at (j := 0) rfl).trans (List.Perm.cons _ ((perm_at (j := 0) rfl).trans (List.Perm.cons _ ((perm_at (j := 0) rfl).trans (List.Perm.cons _ (List.Perm.refl _)))))))) ?_
 refine cm rfl (Ch.nil (Fin.go (Tr.seq (Tr.seq (Tr.reg0 (cm rfl (co rfl (ki rfl rfl rfl rfl) (Ch.nil (Fin.go ?_)))))))))
 refine Tr.cn rfl ?_ ?_ <;> intro h1 q1
 exfalso; have := q1; omega
 refine Tr.skip (Fin.go (Tr.seq (Tr.seq (Tr.regT (tp rfl (kl1 rfl one109 rfl) (tp rfl (okp_nilCheck rfl (vl rfl)) (tp rfl (okp_fieldAddr rfl fo112_0 (vl rfl)) (TO.rd 0 rfl rfl rfl (by decide) (rd_load1 rfl one110 (vl rfl) rfl) (tp rfl (okp_nilCheck rfl (vl rfl)) (tp rfl (okp_fieldAddr rfl fo35_5 (vl rfl)) (TO.rd 1 rfl rfl rfl (by decide) (rd_load1 rfl one33 (vl rfl) rfl) (tm rfl ?_))))))))))))
 refine tp rfl (ok_add rfl (vl rfl) (vl rfl) ?hin) ?_; case hin => unfold InI; omega
 refine tp rfl (ok_rd 2 rfl (rd_part rfl Try.underlying33 sz55 (vl rfl) (vl rfl) (by omega) (by rw [List.length_map]; omega))) ?_
 refine tp rfl (ok_makeFunc rfl rfl) ?_
 refine TO.callD _ rfl rfl (by decide) rfl (w_twice (l := e.ids) (c := c) (b := b) (k := (keyIdx c.number e.ids + 1).toNat)) ⟨ke rfl, ke rfl, trivial⟩ ((perm_at (j := 0) rfl).trans (List.Perm.cons _ ((perm_at (j := 1) rfl).trans (List.Perm.cons _ (List.Perm.refl _))))) ?_
 refine TO.nil (Fin.go (wk3 1 3 24 rfl ?_))
 refine Tr.cn rfl ?_ ?_ <;> intro h2 q2
 rw [ht] at h2; exact absurd h2 (by decide)
 refine Tr.skip (Fin.go (Tr.seq (Tr.regX mixed [none, none, none, none, none, none, none, some (0, 0, false, 0), none, none, some (0, 2, false, 0), none, some (0, 1, false, 0), some (0, 1, false, 0), none, none, none, some (0, 0, true, 0), none, none, none, some (0, 0, true, 0), none, none, none, some (0, 0, true, 0)] (by kernel_rfl) (xo rfl (fun _ => kl1 rfl one109 rfl) (xo rfl (fun _ => kl1 rfl one109 rfl) (xo rfl (fun _ => kl1 rfl one109 rfl) (xm rfl (xo rfl (fun _ => kl1 rfl one109 rfl) (xo rfl (fun _ => okp_nilCheck rfl (vl rfl)) (xo rfl (fun _ => okp_fieldAddr rfl fo112_0 (vl rfl)) (xrd 0 rfl rfl (rd_load1 rfl one110 (vl rfl) rfl) (xo rfl (fun _ => okp_nilCheck rfl (vl rfl)) (xo rfl (fun _ => okp_fieldAddr rfl fo35_5 (vl rfl)) ?_)))))))))))))
 refine xrd 2 rfl rfl (rd_load1 rfl one33 (vl rfl) rfl) (xm rfl ?_)
 refine xrd 1 rfl rfl (rd_elp rfl Try.underlying33 sz55 (vl rfl) (vl rfl) (by omega) (by rw [List.length_map]; omega)) ?_
 refine xrd 1 rfl rfl (rd_elload rfl agg55 sz55 (vl rfl) (map_rows fun _ => rfl) (by rw [List.getElem?_map, hx]; rfl)) ?_
 refine xo rfl (fun _ => okp_nilCheck rfl (vl rfl)) (xo rfl (fun _ => okp_fieldAddr rfl fo112_2 (vl rfl)) (xo rfl (fun _ => okp_fieldAddr rfl fo58_1 (vl rfl)) (Cx.ef0 0 rfl rfl (ef_store rfl rfl (vl rfl) (VL.le (vl rfl) (one_cellsP _)) sz3 rfl (by exact Nat.le_of_ble_eq_true rfl) rfl) (xo rfl (fun _ => okp_nilCheck rfl (vl rfl)) (xo rfl (fun _ => okp_fieldAddr rfl fo112_2 (vl rfl)) (xo rfl (fun _ => okp_fieldAddr rfl fo58_3 (vl rfl)) (Cx.ef0 0 rfl rfl (ef_store rfl rfl (vl rfl) (VL.le (vl rfl) (one_cellsP _)) sz3 rfl (by exact Nat.le_of_ble_eq_true rfl) rfl) (xo rfl (fun _ => okp_nilCheck rfl (vl rfl)) (xo rfl (fun _ => okp_fieldAddr rfl fo112_2 (vl rfl)) (xo rfl (fun _ => okp_fieldAddr rfl fo58_4 (vl rfl)) (Cx.ef0 0 rfl rfl (ef_store rfl rfl (vl rfl) (VL.le (vl rfl) (agg_cellsP _)) sz55 rfl (by exact Nat.le_of_ble_eq_true rfl) rfl) ?_)))))))))))
 refine Cx.nil ⟨rfl, ?_⟩
 refine FinX.done (AllC.cons (AllC.cons (AllC.cons (AllC.cons (AllC.map _))))) (Fin.go (wk2 1 3 rfl (Tr.seq (Tr.regX mixed [none, none, none, some (0, 0, false, 0), none, none, none, some (0, 0, false, 0), none, none, some (0, 2, false, 0), none, none, none, some (0, 1, true, 0), none, none, some (0, 2, true, 0)] (by kernel_rfl) (xo rfl (fun _ => kl1 rfl one109 rfl) (xo rfl (fun _ => okp_nilCheck rfl (vl rfl)) (xo rfl (fun _ => okp_fieldAddr rfl fo112_0 (vl rfl)) (xrd 0 rfl rfl (rd_load1 rfl one110 (vl rfl) rfl) (xo rfl (fun _ => kl1 rfl one109 rfl) (xo rfl (fun _ => okp_nilCheck rfl (vl rfl)) (xo rfl (fun _ => okp_fieldAddr rfl fo112_0 (vl rfl)) (xrd 0 rfl rfl (rd_load1 rfl one110 (vl rfl) rfl) (xo rfl (fun _ => okp_nilCheck rfl (vl rfl)) ?_)))))))))))))
 refine xo rfl (fun _ => okp_fieldAddr rfl fo35_5 (vl rfl)) (xrd 2 rfl rfl (rd_load1 rfl one33 (vl rfl) rfl) (xm rfl (xm rfl ?_)))
 refine xo rfl (fun _ => ok_add rfl (vl rfl) (vl rfl) ?hin) ?_; case hin => unfold InI; omega
 refine Cx.ef 1 rfl rfl (by decide) (ef_callc rfl rfl (by decide) rfl (w_DelWn (l := e.ids) (i := (keyIdx c.number e.ids).toNat) hlt hl) ⟨ke rfl, ⟨_, rfl, int_eq (by omega)⟩, ⟨_, rfl, int_eq (by omega)⟩, trivial⟩) ?_
 refine xo rfl (fun _ => okp_nilCheck rfl (vl rfl)) (xo rfl (fun _ => okp_fieldAddr rfl fo35_5 (vl rfl)) (Cx.ef0 2 rfl rfl (ef_store rfl rfl (vl rfl) (VL.le (vl rfl) (one_cellsP _)) sz33 rfl (by exact Nat.le_of_ble_eq_true rfl) rfl) ?_))
 refine Cx.nil ⟨rfl, ?_⟩
 refine FinX.done (AllC.cons (AllC.cons (AllC.cons (AllC.cons (AllC.map _))))) (Fin.go (Tr.weak [] trivial (Tr.seq (Tr.reg0 (cm rfl (Ch.nil (Fin.go (Tr.ret (Fin.drop 1 (Fin.retD rfl (RVal.tmp rfl (Pr.le_refl _)) ?_ (List.Perm.refl _)))))))))))
 · exact Pr.le_refl _
end Go.Proofs.Ytflodcidhlmaaaa
namespace Go.Proofs.Ytflodcidhlmaaaa
open Go Go.RowKit Cp

def kindsP : List Pr := [is .nilFunc, fn (.func 78) [], fn (.func 79) [], fn (.func 80) [], fn (.func 81) [], fn (.func 82) [], fn (.func 83) [], fn (.func 84) [], fn (.func 85) [], fn (.func 86) [], fn (.func 87) [], fn (.func 88) [], fn (.func 89) []]
def noneB (x : Idn) : Bool := decide (x.alg = 0 ∧ x.bits = 0) && x.keyId == 0 && (((x.chain.length : Nat) : Int) == 0)
def leanB (c : Chg) : Bool := if c.kind = 1 then noneB c.idn else if c.kind = 5 then c.number == 0 else c.at_ == 0 && noneB c.idn
/-- Its lists are of some length. -/
structure Ept.small (e : Ept) : Prop where
  suites : e.suites.length ≤ 1000000
  anchors : e.anchors.length ≤ 1000000
  hashes : e.hashes.length ≤ 1000000
  idl : e.ids.length ≤ 1000000
  ids : ∀ x ∈ e.ids, x.small

set_option maxRecDepth 20000 in
theorem w_CopyC {c : Chg} (hx : c.idn.small) : Fun Try.prog 60 [agg (rowChg c)] (agg (rowChg c)) := by
 refine Fun.of Try.func60 rfl rfl (by exact Nat.le_of_ble_eq_true rfl) fun M0 w0 => ?_
 refine Tr.seq (Tr.regT ?_)
 refine TO.boxm rfl rfl (by decide) rfl (VL.le (vl rfl) (agg_cellsP _)) (fun b1 => ?_)
 refine TO.alloc rfl rfl (by decide) rfl z58 zo58 (fun b2 => ?_)
 refine TO.nil (Fin.go (Tr.seq (Tr.regT (tp rfl (okp_fieldAddr rfl fo58_4 (vl rfl)) (TO.rd 1 rfl rfl rfl (by decide) (rd_loadA rfl agg55 sz55 (vl rfl) rfl rfl) ?_)))))
 refine tp rfl (ok_call rfl (w_copyId (x := c.idn) hx) ⟨ke rfl, trivial⟩) ?_
 refine tp rfl (okp_fieldAddr rfl fo58_4 (vl rfl)) (TO.ef0 1 rfl rfl (ef_store rfl rfl (vl rfl) (VL.le (vl rfl) (agg_cellsP _)) sz55 rfl (by exact Nat.le_of_ble_eq_true rfl) rfl) (TO.nil (Fin.go (Tr.seq (Tr.regT (TO.rd 1 rfl rfl rfl (by decide) (rd_loadA rfl agg58 sz58 (vl rfl) rfl rfl) (TO.store_all 0 rfl rfl rfl (vl rfl) (VL.le (vl rfl) (agg_cellsP _)) rfl sz58 rfl rfl (TO.nil (Fin.go (Tr.drop 1 (Tr.ret (Fin.retX1 rfl (RVal.cell 0 rfl rfl agg58 sz58 rfl (Pr.le_refl _)) ?_))))))))))))
 · exact Pr.le_refl _
set_option maxRecDepth 20000 in
theorem w_none {x : Idn}  : Fun Try.prog 77 [agg (rowId x)] (bool (noneB x)) := by
 refine Fun.of Try.func77 rfl rfl (by exact Nat.le_of_ble_eq_true rfl) fun M0 w0 => ?_
 refine Tr.seq (Tr.reg0 (co rfl (ok_box rfl (VL.le (vl rfl) (agg_cellsP _))) (cm rfl (Ch.nil (Fin.go (Tr.seq (Tr.reg0 (co rfl (kfa rfl fo55_0 rfl rfl) (co rfl (ok_loadA rfl agg51 sz51 (vl rfl) rfl rfl) (co rfl (ok_build (rows := []) rfl bl51 zo51 trivial rfl) (co rfl (ok_eq51 rfl (vl rfl) (vl rfl)) (cm rfl ?_))))))))))))
 refine Ch.cs 7 rfl ?_ ?_ <;> intro h1 q1
 refine cy h1 rfl (kfa rfl fo55_1 rfl rfl) (cy h1 rfl (kl1 rfl one3 rfl) (cy h1 rfl (ki rfl rfl rfl rfl) (co rfl (kpt rfl rfl h1 rfl) (cm rfl ?_))))
 refine Ch.cs 12 rfl ?_ ?_ <;> intro h2 q2
 refine cy h2 rfl (kfa rfl fo55_2 rfl rfl) (cy h2 rfl (kl1 rfl one53 rfl) (cy h2 rfl (ok_lenm rfl Try.underlying53 (vl rfl)) (cy h2 rfl (ki rfl rfl rfl rfl) (co rfl (kpt rfl rfl h2 rfl) (cm rfl (Ch.nil (Fin.go (wk1 2 rfl (Tr.ret (Fin.ret1 rfl (OutW.bse _ _) rfl ?_))))))))))
 · refine bool_eq ?_; unfold noneB; simp_all
 iterate 4 refine cnt h2 rfl ?_
 refine co rfl (kpf rfl rfl h2 rfl) (cm rfl (Ch.nil (Fin.go (wk1 2 rfl (Tr.ret (Fin.ret1 rfl (OutW.bse _ _) rfl ?_))))))
 · refine bool_eq ?_; unfold noneB; simp_all
 refine cnt h1 rfl (cnt h1 rfl (cnt h1 rfl (co rfl (kpf rfl rfl h1 rfl) (cm rfl ?_))))
 iterate 4 refine cnd rfl rfl ?_
 refine co rfl (kpf rfl rfl rfl rfl) (cm rfl (Ch.nil (Fin.go (wk1 2 rfl (Tr.ret (Fin.ret1 rfl (OutW.bse _ _) rfl ?_))))))
 · refine bool_eq ?_; unfold noneB; simp_all
set_option maxRecDepth 20000 in
theorem w_lean {c : Chg}  : Fun Try.prog 58 [agg (rowChg c)] (bool (leanB c)) := by
 refine Fun.of Try.func58 rfl rfl (by exact Nat.le_of_ble_eq_true rfl) fun M0 w0 => ?_
 refine Tr.seq (Tr.reg0 (co rfl (ok_box rfl (VL.le (vl rfl) (agg_cellsP _))) (cm rfl (Ch.nil (Fin.go (Tr.seq (Tr.seq (Tr.reg0 (co rfl (kfa rfl fo58_1 rfl rfl) (co rfl (kl1 rfl one3 rfl) (Ch.nil (Fin.go (Tr.block (Tr.seq ?_))))))))))))))
 refine Tr.reg0 (co rfl (ki rfl rfl rfl rfl) (cm rfl (Ch.nil (Fin.go ?_))))
 refine Tr.cn rfl ?_ ?_ <;> intro h1 q1
 refine Tr.seq (Tr.reg0 (co rfl (kfa rfl fo58_4 rfl rfl) (co rfl (ok_loadA rfl agg55 sz55 (vl rfl) rfl rfl) ?_)))
 refine co rfl (ok_call rfl (w_none (x := c.idn)) ⟨ke rfl, trivial⟩) ?_
 refine cm rfl (Ch.nil (Fin.go (Tr.ret (Fin.block_ret (Fin.then_ret (Fin.ret1 rfl (OutW.bse _ _) rfl ?_))))))
 · refine bool_eq ?_; unfold leanB; simp_all
 refine Tr.seq (Tr.reg0 (co rfl (ki rfl rfl rfl rfl) (cm rfl (Ch.nil (Fin.go ?_)))))
 refine Tr.cn rfl ?_ ?_ <;> intro h2 q2
 refine Tr.seq (Tr.reg0 (co rfl (kfa rfl fo58_2 rfl rfl) (co rfl (kl1 rfl one3 rfl) (co rfl (ki rfl rfl rfl rfl) (cm rfl (Ch.nil (Fin.go (Tr.ret (Fin.block_ret (Fin.then_ret (Fin.ret1 rfl (OutW.bse _ _) rfl ?_)))))))))))
 · refine bool_eq ?_; unfold leanB; simp_all
 refine Tr.skip (Fin.block (Fin.go (Tr.seq (Tr.reg0 (co rfl (kfa rfl fo58_3 rfl rfl) (co rfl (kl1 rfl one3 rfl) (co rfl (ki rfl rfl rfl rfl) (cm rfl ?_))))))))
 refine Ch.cs 18 rfl ?_ ?_ <;> intro h3 q3
 refine cy h3 rfl (kfa rfl fo58_4 rfl rfl) (cy h3 rfl (ok_loadA rfl agg55 sz55 (vl rfl) rfl rfl) ?_)
 refine cy h3 rfl (ok_call rfl (w_none (x := c.idn)) ⟨ke rfl, trivial⟩) ?_
 refine co rfl (kpt rfl rfl h3 rfl) (cm rfl (Ch.nil (Fin.go (wk1 2 rfl (Tr.ret (Fin.ret1 rfl (OutW.bse _ _) rfl ?_))))))
 · refine bool_eq ?_; unfold leanB; simp_all
 refine cnt h3 rfl (cnt h3 rfl (cnt h3 rfl (co rfl (kpf rfl rfl h3 rfl) (cm rfl (Ch.nil (Fin.go (wk1 2 rfl (Tr.ret (Fin.ret1 rfl (OutW.bse _ _) rfl ?_)))))))))
 · refine bool_eq ?_; unfold leanB; simp_all
set_option maxRecDepth 20000 in
theorem w_kinds   : Fun Try.prog 59 [] (agg kindsP) := by
 refine Fun.of Try.func59 rfl rfl (by exact Nat.le_of_ble_eq_true rfl) fun M0 w0 => ?_
 refine Tr.seq (Tr.regT ?_)
 refine TO.alloc rfl rfl (by decide) rfl z114 zo114 (fun b1 => ?_)
 refine TO.nil (Fin.go (Tr.seq (Tr.regT (tp rfl (ok_build (rows := [(1, [_]), (2, [_]), (3, [_]), (4, [_]), (5, [_]), (6, [_]), (7, [_]), (8, [_]), (9, [_]), (10, [_]), (11, [_]), (12, [_])]) rfl bl114 zo114 ⟨⟨rfl, (VL.le (vl rfl) (one_cellsP _))⟩, ⟨⟨rfl, (VL.le (vl rfl) (one_cellsP _))⟩, ⟨⟨rfl, (VL.le (vl rfl) (one_cellsP _))⟩, ⟨⟨rfl, (VL.le (vl rfl) (one_cellsP _))⟩, ⟨⟨rfl, (VL.le (vl rfl) (one_cellsP _))⟩, ⟨⟨rfl, (VL.le (vl rfl) (one_cellsP _))⟩, ⟨⟨rfl, (VL.le (vl rfl) (one_cellsP _))⟩, ⟨⟨rfl, (VL.le (vl rfl) (one_cellsP _))⟩, ⟨⟨rfl, (VL.le (vl rfl) (one_cellsP _))⟩, ⟨⟨rfl, (VL.le (vl rfl) (one_cellsP _))⟩, ⟨⟨rfl, (VL.le (vl rfl) (one_cellsP _))⟩, ⟨⟨rfl, (VL.le (vl rfl) (one_cellsP _))⟩, trivial⟩⟩⟩⟩⟩⟩⟩⟩⟩⟩⟩⟩ rfl) (TO.store_all 0 rfl rfl rfl (vl rfl) (VL.le (vl rfl) (agg_cellsP _)) rfl sz114 rfl rfl (TO.nil (Fin.go (Tr.ret (Fin.retX1 rfl (RVal.cell 0 rfl rfl agg114 sz114 rfl (Pr.le_refl _)) ?_)))))))))
 · exact Pr.le_refl _
set_option maxRecDepth 20000 in
set_option maxHeartbeats 1000000 in
theorem w_CopyEn {e : Ept} (hsm : e.small) : FunV Try.prog 50 [agg (rowEp e)] (fun x => agg (rowO e (ints e.suites) (is x) (ints e.anchors) (ints e.hashes))) (fun x => [oweRes 55 4 (e.ids.map rowId) x]) := by
 refine FunV.of Try.func50 rfl rfl (by exact Nat.le_of_ble_eq_true rfl) fun M0 w0 S rs M1 w1 => ?_
 have hs1 := hsm.suites
 have hs2 := hsm.anchors
 have hs3 := hsm.hashes
 have hs4 := hsm.idl
 refine Tr.seq (Tr.regT ?_)
 refine TO.boxm rfl rfl (by decide) rfl (VL.le (vl rfl) (agg_cellsP _)) (fun b1 => ?_)
 refine TO.alloc rfl rfl (by decide) rfl z35 zo35 (fun b2 => ?_)
 refine TO.nil (Fin.go (Tr.seq (Tr.pad (Tr.regX mixed [none, some (0, 2, false, 0), none, none, some (0, 2, false, 0), none, none, some (0, 2, false, 0), none, none, some (0, 2, false, 0), some (0, 0, true, 16), none, some (0, 2, true, 0), none, some (0, 2, true, 0), none, some (0, 2, true, 0), none, some (0, 2, true, 16)] (by kernel_rfl) (xo rfl (fun _ => okp_fieldAddr rfl fo35_3 (vl rfl)) (xrd 2 rfl rfl (rd_load1 rfl one22 (vl rfl) rfl) ?_))))))
 refine xo rfl (fun _ => ok_call rfl (w_CloneFi (l := e.suites) hs1) ⟨ke rfl, trivial⟩) ?_
 refine xo rfl (fun _ => okp_fieldAddr rfl fo35_6 (vl rfl)) (xrd 2 rfl rfl (rd_load1 rfl one22 (vl rfl) rfl) ?_)
 refine xo rfl (fun _ => ok_call rfl (w_CloneFi (l := e.anchors) hs2) ⟨ke rfl, trivial⟩) ?_
 refine xo rfl (fun _ => okp_fieldAddr rfl fo35_7 (vl rfl)) (xrd 2 rfl rfl (rd_load1 rfl one22 (vl rfl) rfl) ?_)
 refine xo rfl (fun _ => ok_call rfl (w_CloneFi (l := e.hashes) hs3) ⟨ke rfl, trivial⟩) ?_
 refine xo rfl (fun _ => okp_fieldAddr rfl fo35_5 (vl rfl)) (xrd 2 rfl rfl (rd_load1 rfl one33 (vl rfl) rfl) ?_)
 refine Cx.ef 0 rfl rfl (by decide) (ef_call rfl rfl (by decide) rfl (w_CloneWn (l := e.ids) hs4) ⟨ke rfl, trivial⟩) ?_
 refine xo rfl (fun _ => okp_fieldAddr rfl fo35_3 (vl rfl)) (Cx.ef0 2 rfl rfl (ef_store rfl rfl (vl rfl) (VL.le (vl rfl) (one_cellsP _)) sz22 rfl (by exact Nat.le_of_ble_eq_true rfl) rfl) (xo rfl (fun _ => okp_fieldAddr rfl fo35_6 (vl rfl)) (Cx.ef0 2 rfl rfl (ef_store rfl rfl (vl rfl) (VL.le (vl rfl) (one_cellsP _)) sz22 rfl (by exact Nat.le_of_ble_eq_true rfl) rfl) (xo rfl (fun _ => okp_fieldAddr rfl fo35_7 (vl rfl)) (Cx.ef0 2 rfl rfl (ef_store rfl rfl (vl rfl) (VL.le (vl rfl) (one_cellsP _)) sz22 rfl (by exact Nat.le_of_ble_eq_true rfl) rfl) (xo rfl (fun _ => okp_fieldAddr rfl fo35_5 (vl rfl)) (Cx.ef0 2 rfl rfl (ef_storeS rfl rfl rfl (vl rfl) rfl sz33 (by exact Nat.le_of_ble_eq_true rfl)) ?_)))))))
 refine Cx.nil ⟨rfl, ?_⟩
 refine FinX.open2 0 2 16 rfl rfl (by decide) rfl (fun v1 => ?_)
 refine FinX.done (AllC.cons (AllC.cons (AllC.cons (AllC.cons (AllC.map _))))) (Fin.go (wk2 1 2 rfl (Tr.seq (Tr.seq (Tr.reg0 (co rfl (okp_fieldAddr rfl fo35_5 (vl rfl)) (co rfl (ok_rd 2 rfl (rd_load1 rfl one33 (vl rfl) rfl)) (co rfl (ok_rd 0 rfl (rd_lenW rfl Try.underlying33 ⟨_, rfl, andIs_is _ _⟩)) (cm rfl (Ch.nil (Fin.go (Tr.block (Tr.re 23 rfl (int_eq (by rw [List.length_map])) (Tr.loopw [(1, _), (2, _), (22, _), (23, _)] (kk4 rfl) (fun k : Nat => [(24, int ((k : Nat) : Int))]) (fun k : Nat => k ≤ (e.ids).length) (fun k : Nat => (e.ids).length - k) 0 (Nat.zero_le _) ⟨ke rfl, trivial⟩ ?_))))))))))))))
 rintro k hle_k
 refine Tr.seq (Tr.reg0 (co rfl (ki rfl rfl rfl rfl) (Ch.nil (Fin.go (Tr.seq ?_)))))
 refine Tr.cn rfl ?_ ?_ <;> intro h1 q1
 have hk_k : k < (e.ids).length := lt_of_dec h1
 obtain ⟨x, hx_k⟩ := at_ hk_k
 have hxs := hsm.ids x (List.mem_of_getElem? hx_k)
 refine Tr.skip (Fin.go (Tr.seq (Tr.block (Tr.seq (Tr.regT (tm rfl ?_))))))
 refine tp rfl (ok_rd 0 rfl (rd_elp rfl Try.underlying33 sz55 ⟨_, rfl, andIs_is _ _⟩ (vl rfl) (by omega) (by rw [List.length_map]; omega))) ?_
 refine tp rfl (ok_rd 0 rfl (rd_elload rfl agg55 sz55 (vl rfl) (map_rows fun _ => rfl) (by rw [Int.toNat_natCast, List.getElem?_map, hx_k]; rfl))) ?_
 refine TO.alloc rfl rfl (by decide) rfl z55 zo55 (fun b3 => ?_)
 refine tm rfl (TO.store_all 0 rfl rfl rfl (vl rfl) (VL.le (vl rfl) (agg_cellsP _)) rfl sz55 rfl rfl (TO.freeze 0 4 rfl rfl (TO.nil (Fin.go (Tr.regX mixed [none, some (0, 2, false, 0), none, none, none, some (0, 0, false, 0), some (0, 0, true, 0)] (by kernel_rfl) (xo rfl (fun _ => okp_fieldAddr rfl fo35_5 (vl rfl)) (xrd 2 rfl rfl (rd_load1 rfl one33 (vl rfl) rfl) (xm rfl (xo rfl (fun _ => ok_loadA rfl agg55 sz55 (vl rfl) rfl rfl) (xo rfl (fun _ => ok_call rfl (w_copyId hxs) ⟨ke rfl, trivial⟩) ?_))))))))))
 refine xrd 0 rfl rfl (rd_elp rfl Try.underlying33 sz55 ⟨_, rfl, andIs_is _ _⟩ (vl rfl) (by omega) (by rw [List.length_map]; omega)) ?_
 refine Cx.ef0 0 rfl rfl (ef_elstore rfl rfl (vl rfl) (VL.le (vl rfl) (agg_cellsP _)) sz55 rfl (map_rows fun _ => rfl) (by rw [Int.toNat_natCast, List.getElem?_map, hx_k]; rfl) (by decide) (row_setI (f := rowId) (q := 0) (m := 4) hx_k rfl)) ?_
 refine Cx.nil ⟨rfl, ?_⟩
 refine FinX.done (AllC.cons (AllC.cons (AllC.cons (AllC.cons (AllC.map _))))) (Fin.block (Fin.go (wk5 1 2 22 23 24 rfl (Tr.reg0 (cad rfl rfl rfl rfl (by omega) (cm rfl (Ch.nil (Fin.fam_same (k + 1) ⟨hk_k, by omega⟩ ⟨⟨_, rfl, int_succ k⟩, ke rfl, ke rfl, ke rfl, ke rfl, trivial⟩))))))))
 have he_k : k = (e.ids).length := by have := ge_of_dec h1; omega
 subst he_k
 refine Tr.exit (Fin.then_exit (Fin.then_exit (Fin.block_here (Fin.go (Tr.seq (Tr.regT (TO.rd 2 rfl rfl rfl (by decide) (rd_loadA rfl agg35 sz35 (vl rfl) rfl rfl) (TO.store_all 1 rfl rfl rfl (vl rfl) (VL.le (vl rfl) (agg_cellsP _)) rfl sz35 rfl rfl (TO.nil (Fin.go (Tr.drop 2 (Tr.ret (Fin.swap01 (Fin.retV v1 [_] rfl (RVal.cell 0 rfl rfl agg35 sz35 rfl (Pr.le_refl _)) ?_ (List.Perm.refl _)))))))))))))))
 · exact agg_le ⟨Pr.le_refl _, Pr.le_refl _, Pr.le_refl _, Pr.le_refl _, Pr.le_refl _, andIs_is _ _, Pr.le_refl _, Pr.le_refl _, Pr.le_refl _, trivial⟩
set_option maxRecDepth 20000 in
set_option maxHeartbeats 1000000 in
theorem w_CopyEs {e : Ept} (hsm : e.small) : FunV Try.prog 50 [agg (rowEp e)] (fun x => agg (rowO e (is x) (idns e.ids) (ints e.anchors) (ints e.hashes))) (fun x => [oweRes 3 1 (e.suites.map fun n => [int n]) x]) := by
 refine FunV.of Try.func50 rfl rfl (by exact Nat.le_of_ble_eq_true rfl) fun M0 w0 S rs M1 w1 => ?_
 have hs1 := hsm.suites
 have hs2 := hsm.anchors
 have hs3 := hsm.hashes
 have hs4 := hsm.idl
 refine Tr.seq (Tr.regT ?_)
 refine TO.boxm rfl rfl (by decide) rfl (VL.le (vl rfl) (agg_cellsP _)) (fun b1 => ?_)
 refine TO.alloc rfl rfl (by decide) rfl z35 zo35 (fun b2 => ?_)
 refine TO.nil (Fin.go (Tr.seq (Tr.pad (Tr.pad (Tr.regX mixed [none, some (0, 3, false, 0), some (0, 0, true, 7), none, some (0, 3, false, 0), none, none, some (0, 3, false, 0), none, none, some (0, 3, false, 0), some (0, 1, true, 16), none, some (0, 3, true, 7), none, some (7, 3, true, 7), none, some (7, 3, true, 7), none, some (7, 3, true, .two 7 16)] (by kernel_rfl) (xo rfl (fun _ => okp_fieldAddr rfl fo35_3 (vl rfl)) (xrd 3 rfl rfl (rd_load1 rfl one22 (vl rfl) rfl) ?_)))))))
 refine Cx.ef 0 rfl rfl (by decide) (ef_call rfl rfl (by decide) rfl (w_CloneWi (l := e.suites) hs1) ⟨ke rfl, trivial⟩) ?_
 refine xo rfl (fun _ => okp_fieldAddr rfl fo35_6 (vl rfl)) (xrd 3 rfl rfl (rd_load1 rfl one22 (vl rfl) rfl) ?_)
 refine xo rfl (fun _ => ok_call rfl (w_CloneFi (l := e.anchors) hs2) ⟨ke rfl, trivial⟩) ?_
 refine xo rfl (fun _ => okp_fieldAddr rfl fo35_7 (vl rfl)) (xrd 3 rfl rfl (rd_load1 rfl one22 (vl rfl) rfl) ?_)
 refine xo rfl (fun _ => ok_call rfl (w_CloneFi (l := e.hashes) hs3) ⟨ke rfl, trivial⟩) ?_
 refine xo rfl (fun _ => okp_fieldAddr rfl fo35_5 (vl rfl)) (xrd 3 rfl rfl (rd_load1 rfl one33 (vl rfl) rfl) ?_)
 refine Cx.ef 1 rfl rfl (by decide) (ef_call rfl rfl (by decide) rfl (w_CloneWn (l := e.ids) hs4) ⟨ke rfl, trivial⟩) ?_
 refine xo rfl (fun _ => okp_fieldAddr rfl fo35_3 (vl rfl)) (Cx.ef0 3 rfl rfl (ef_storeS rfl rfl rfl (vl rfl) rfl sz22 (by exact Nat.le_of_ble_eq_true rfl)) (xo rfl (fun _ => okp_fieldAddr rfl fo35_6 (vl rfl)) (Cx.ef0 3 rfl rfl (ef_storeW rfl rfl rfl (vl rfl) (VL.le (vl rfl) (one_cellsP _)) sz22 rfl (fun _ => by exact Nat.le_of_ble_eq_true rfl)) (xo rfl (fun _ => okp_fieldAddr rfl fo35_7 (vl rfl)) (Cx.ef0 3 rfl rfl (ef_storeW rfl rfl rfl (vl rfl) (VL.le (vl rfl) (one_cellsP _)) sz22 rfl (fun _ => by exact Nat.le_of_ble_eq_true rfl)) (xo rfl (fun _ => okp_fieldAddr rfl fo35_5 (vl rfl)) (Cx.ef0 3 rfl rfl (ef_storeT rfl rfl rfl (vl rfl) rfl sz33 (fun _ => by exact Nat.le_of_ble_eq_true rfl)) ?_)))))))
 refine Cx.nil ⟨rfl, ?_⟩
 refine FinX.open3 0 1 3 7 16 rfl rfl rfl (by decide) (by decide) (by decide) (by decide) rfl rfl (fun v1 v2 => ?_)
 refine FinX.done (AllC.cons (AllC.cons (AllC.cons (AllC.cons (AllC.cons (AllC.map _)))))) (Fin.go (wk2 1 2 rfl (Tr.seq (Tr.seq (Tr.reg0 (co rfl (okp_fieldAddr rfl fo35_5 (vl rfl)) (co rfl (ok_rd 3 rfl (rd_load1 rfl one33 (vl rfl) rfl)) (co rfl (ok_rd 1 rfl (rd_lenW rfl Try.underlying33 ⟨_, rfl, andIs_is _ _⟩)) (cm rfl (Ch.nil (Fin.go (Tr.block (Tr.re 23 rfl (int_eq (by rw [List.length_map])) (Tr.loopw [(1, _), (2, _), (22, _), (23, _)] (kk4 rfl) (fun k : Nat => [(24, int ((k : Nat) : Int))]) (fun k : Nat => k ≤ (e.ids).length) (fun k : Nat => (e.ids).length - k) 0 (Nat.zero_le _) ⟨ke rfl, trivial⟩ ?_))))))))))))))
 rintro k hle_k
 refine Tr.seq (Tr.reg0 (co rfl (ki rfl rfl rfl rfl) (Ch.nil (Fin.go (Tr.seq ?_)))))
 refine Tr.cn rfl ?_ ?_ <;> intro h1 q1
 have hk_k : k < (e.ids).length := lt_of_dec h1
 obtain ⟨x, hx_k⟩ := at_ hk_k
 have hxs := hsm.ids x (List.mem_of_getElem? hx_k)
 refine Tr.skip (Fin.go (Tr.seq (Tr.block (Tr.seq (Tr.regT (tm rfl ?_))))))
 refine tp rfl (ok_rd 1 rfl (rd_elp rfl Try.underlying33 sz55 ⟨_, rfl, andIs_is _ _⟩ (vl rfl) (by omega) (by rw [List.length_map]; omega))) ?_
 refine tp rfl (ok_rd 1 rfl (rd_elload rfl agg55 sz55 (vl rfl) (map_rows fun _ => rfl) (by rw [Int.toNat_natCast, List.getElem?_map, hx_k]; rfl))) ?_
 refine TO.alloc rfl rfl (by decide) rfl z55 zo55 (fun b3 => ?_)
 refine tm rfl (TO.store_all 0 rfl rfl rfl (vl rfl) (VL.le (vl rfl) (agg_cellsP _)) rfl sz55 rfl rfl (TO.freeze 0 4 rfl rfl (TO.nil (Fin.go (Tr.regX mixed [none, some (0, 3, false, 0), none, none, none, some (0, 1, false, 0), some (0, 1, true, 0)] (by kernel_rfl) (xo rfl (fun _ => okp_fieldAddr rfl fo35_5 (vl rfl)) (xrd 3 rfl rfl (rd_load1 rfl one33 (vl rfl) rfl) (xm rfl (xo rfl (fun _ => ok_loadA rfl agg55 sz55 (vl rfl) rfl rfl) (xo rfl (fun _ => ok_call rfl (w_copyId hxs) ⟨ke rfl, trivial⟩) ?_))))))))))
 refine xrd 1 rfl rfl (rd_elp rfl Try.underlying33 sz55 ⟨_, rfl, andIs_is _ _⟩ (vl rfl) (by omega) (by rw [List.length_map]; omega)) ?_
 refine Cx.ef0 1 rfl rfl (ef_elstore rfl rfl (vl rfl) (VL.le (vl rfl) (agg_cellsP _)) sz55 rfl (map_rows fun _ => rfl) (by rw [Int.toNat_natCast, List.getElem?_map, hx_k]; rfl) (by decide) (row_setI (f := rowId) (q := 0) (m := 4) hx_k rfl)) ?_
 refine Cx.nil ⟨rfl, ?_⟩
 refine FinX.done (AllC.cons (AllC.cons (AllC.cons (AllC.cons (AllC.cons (AllC.map _)))))) (Fin.block (Fin.go (wk5 1 2 22 23 24 rfl (Tr.reg0 (cad rfl rfl rfl rfl (by omega) (cm rfl (Ch.nil (Fin.fam_same (k + 1) ⟨hk_k, by omega⟩ ⟨⟨_, rfl, int_succ k⟩, ke rfl, ke rfl, ke rfl, ke rfl, trivial⟩))))))))
 have he_k : k = (e.ids).length := by have := ge_of_dec h1; omega
 subst he_k
 refine Tr.exit (Fin.then_exit (Fin.then_exit (Fin.block_here (Fin.go (Tr.seq (Tr.frzWC 3 1 5 rfl rfl (by decide) rfl (andIs_is _ _) (map_rows fun _ => rfl) (Tr.regT (TO.rd 3 rfl rfl rfl (by decide) (rd_loadA rfl agg35 sz35 (vl rfl) rfl rfl) (TO.store_all 2 rfl rfl rfl (vl rfl) (VL.le (vl rfl) (agg_cellsP _)) rfl sz35 rfl rfl (TO.nil (Fin.go (Tr.drop 1 (Tr.drop 2 (Tr.ret ?_))))))))))))))
 refine Fin.swap01 (Fin.retV v1 [_] rfl (RVal.cell 0 rfl rfl agg35 sz35 rfl (Pr.le_refl _)) ?_ (List.Perm.refl _))
 · exact agg_le ⟨Pr.le_refl _, Pr.le_refl _, Pr.le_refl _, andIs_is _ _, Pr.le_refl _, Pr.le_refl _, Pr.le_refl _, Pr.le_refl _, Pr.le_refl _, trivial⟩
end Go.Proofs.Ytflodcidhlmaaaa
namespace Go.Proofs.Ytflodcidhlmaaaa
open Go Go.RowKit Cp

def zeroEp : Ept := ⟨[], 0, 0, [], false, [], [], [], false⟩
def zeroId : Idn := ⟨0, 0, 0, []⟩
def zeroChg : Chg := ⟨0, 0, 0, 0, zeroId⟩
abbrev back0 (c : Chg) : Chg := ⟨c.endpoint, 0, 0, 0, zeroId⟩

set_option maxRecDepth 20000 in
set_option maxHeartbeats 1000000 in
theorem w_donenE {e e2 : Ept} {c b : Chg} {fk : Nat} {err : Int} (hf : e.fits) (hsm : e.small) (hce : eptB e = true) (hk : 1 ≤ c.kind ∧ c.kind ≤ 12) (hlean : leanB c = true) (hkp : kindsP[c.kind.toNat]? = some (fn (.func fk) [])) (he : err ≠ 0) (hm : ∀ (wb ob : Nat) (v : Value), FunD Try.prog fk [ptr wb 0] [resW wb ob c (back0 c), resO ob e (ints e.suites) (is v) (ints e.anchors) (ints e.hashes), oweRes 55 4 (e.ids.map rowId) v] (int err) []) : Fun Try.prog 38 [agg (rowEp e), agg (rowChg c)] (tup [agg (rowEp zeroEp), agg (rowChg zeroChg), int err]) := by
 refine Fun.of Try.func38 rfl rfl (by exact Nat.le_of_ble_eq_true rfl) fun M0 w0 => ?_
 refine Tr.seq (Tr.regT (tp rfl (ok_box rfl (VL.le (vl rfl) (agg_cellsP _))) (tp rfl (ok_box rfl (VL.le (vl rfl) (agg_cellsP _))) ?_)))
 refine TO.alloc rfl rfl (by decide) rfl z35 zo35 (fun b1 => ?_)
 refine TO.alloc rfl rfl (by decide) rfl z58 zo58 (fun b2 => ?_)
 refine tm rfl (TO.nil (Fin.go (Tr.seq (Tr.seq (Tr.reg0 (co rfl (ok_loadA rfl agg35 sz35 (vl rfl) rfl rfl) (co rfl (ok_call rfl (w_ECheck hf) ⟨ke rfl, trivial⟩) (co rfl (ki rfl rfl rfl rfl) (Ch.nil (Fin.go ?_))))))))))
 refine Tr.cn rfl ?_ ?_ <;> intro h1 q1
 exfalso; rw [if_pos hce] at h1; exact absurd h1 (by decide)
 refine Tr.skip (Fin.go (Tr.seq (Tr.seq (Tr.reg0 (co rfl (kfa rfl fo58_1 rfl rfl) (co rfl (kl1 rfl one3 rfl) (co rfl (ki rfl rfl rfl rfl) (cm rfl ?_))))))))
 refine Ch.cs 18 rfl ?_ ?_ <;> intro h2 q2
 exfalso; have := q2; omega
 refine cy h2 rfl (kfa rfl fo58_1 rfl rfl) (cy h2 rfl (kl1 rfl one3 rfl) (cy h2 rfl (ki rfl rfl rfl rfl) (co rfl (kpf rfl rfl h2 rfl) (cm rfl ?_))))
 refine Ch.cs 23 rfl ?_ ?_ <;> intro h3 q3
 exfalso; have := q3; omega
 refine cy h3 rfl (ok_loadA rfl agg58 sz58 (vl rfl) rfl rfl) ?_
 refine cy h3 rfl (ok_call rfl (w_lean (c := c)) ⟨ke rfl, trivial⟩) ?_
 refine cy h3 rfl (ok_not rfl (vl rfl)) (co rfl (kpf rfl rfl h3 rfl) (Ch.nil (Fin.go (wk5 2 3 4 5 27 rfl ?_))))
 refine Tr.cn rfl ?_ ?_ <;> intro h4 q4
 rw [hlean] at h4; exact absurd h4 (by decide)
 refine Tr.skip (Fin.go (Tr.seq (Tr.regT (tp rfl (ok_loadA rfl agg35 sz35 (vl rfl) rfl rfl) ?_))))
 refine TO.callV rfl rfl (by decide) rfl (w_CopyEn hsm) ⟨ke rfl, trivial⟩ (fun v1 => ?_)
 refine TO.alloc rfl rfl (by decide) rfl z35 zo35 (fun b3 => ?_)
 refine TO.store_all 0 rfl rfl rfl (vl rfl) (VL.le (vl rfl) (agg_cellsP _)) rfl sz35 rfl rfl (TO.nil (Fin.go (Tr.seq (Tr.regT (tp rfl (ok_loadA rfl agg58 sz58 (vl rfl) rfl rfl) (tp rfl (kfa rfl fo58_0 rfl rfl) (tp rfl (kl1 rfl one3 rfl) (tp rfl (ok_build (rows := [(0, [_])]) rfl bl58 zo58 ⟨⟨rfl, (VL.le (vl rfl) (one_cellsP _))⟩, trivial⟩ rfl) (tp rfl (ok_build (rows := [(0, [_]), (1, _), (2, _)]) rfl bl112 zo112 ⟨⟨rfl, (VL.le (vl rfl) (one_cellsP _))⟩, ⟨⟨rfl, (VL.le (vl rfl) (agg_cellsP _))⟩, ⟨⟨rfl, (VL.le (vl rfl) (agg_cellsP _))⟩, trivial⟩⟩⟩ rfl) ?_)))))))))
 refine TO.boxm rfl rfl (by decide) rfl (VL.le (vl rfl) (agg_cellsP _)) (fun b4 => ?_)
 refine tm rfl (TO.nil (Fin.go (wk5 3 4 5 7 8 rfl (Tr.seq (Tr.seq (Tr.leC 0 (ptr b3 0 :: rowWt c (back0 c)) rfl ⟨Pr.le_refl _, Pr.le_refl _, Pr.le_refl _, Pr.le_refl _, Pr.le_refl _, Pr.le_refl _, Pr.le_refl _, Pr.le_refl _, Pr.le_refl _, Pr.le_refl _, Pr.le_refl _, Pr.le_refl _, Pr.le_refl _, Pr.le_refl _, Pr.le_refl _, Pr.le_refl _, nil_slice 15, trivial⟩ (Tr.regOne mixed 5 (by kernel_rfl) (ChOne.op rfl rfl (by decide) (ok_call rfl (w_kinds) trivial) (ChOne.op rfl rfl (by decide) (kfa rfl fo58_1 rfl rfl) (ChOne.op rfl rfl (by decide) (kl1 rfl one3 rfl) (ChOne.op rfl rfl (by decide) (ok_index1 rfl Try.underlying114 one113 sz113 (vl rfl) (vl rfl) (by omega) (by omega) hkp) (ChOne.op rfl rfl (by decide) (ok_move rfl (vl rfl)) ?_))))))))))))
 refine ChOne.turn _ rfl (by decide) (turn_callv _ rfl rfl (vl rfl) (hm _ _ _) ⟨ke rfl, trivial⟩ ((perm_at (j := 0) rfl).trans (List.Perm.cons _ ((perm_at (j := 0) rfl).trans (List.Perm.cons _ ((perm_at (j := 0) rfl).trans (List.Perm.cons _ (List.Perm.refl _)))))))) ?_
 refine cm rfl (Ch.nil (Fin.go (Tr.seq (Tr.reg0 (cm rfl (co rfl (ki rfl rfl rfl rfl) (Ch.nil (Fin.go (wk6 4 5 7 8 9 45 rfl ?_)))))))))
 refine Tr.cn rfl ?_ ?_ <;> intro h5 q5
 refine Tr.seq (Tr.regT (tp rfl (ok_build (rows := []) rfl bl35 zo35 trivial rfl) (tp rfl (ok_build (rows := []) rfl bl58 zo58 trivial rfl) (tm rfl (TO.store_all 1 rfl rfl rfl (vl rfl) (VL.le (vl rfl) (agg_cellsP _)) rfl sz35 rfl rfl (TO.store_all 0 rfl rfl rfl (vl rfl) (VL.le (vl rfl) (agg_cellsP _)) rfl sz58 rfl rfl (tm rfl (TO.nil (Fin.go (Tr.ret (Fin.then_ret (Fin.retX3 rfl (RVal.cell 1 rfl rfl agg35 sz35 rfl (Pr.le_refl _)) (RVal.cell 0 rfl rfl agg58 sz58 rfl (Pr.le_refl _)) (RVal.tmp rfl (Pr.le_refl _)) ?_))))))))))))
 refine tup_le ⟨?_, ?_, ?_, trivial⟩
 · exact agg_le ⟨Pr.le_refl _, Pr.le_refl _, Pr.le_refl _, nil_slice 1, Pr.le_refl _, nil_slice 4, nil_slice 1, nil_slice 1, Pr.le_refl _, trivial⟩
 · exact agg_le ⟨Pr.le_refl _, Pr.le_refl _, Pr.le_refl _, Pr.le_refl _, Pr.le_refl _, Pr.le_refl _, Pr.le_refl _, nil_slice 15, trivial⟩
 · exact Pr.le_refl _
 exfalso; have := q5; omega
set_option maxRecDepth 20000 in
set_option maxHeartbeats 1000000 in
theorem w_donenY {e e2 : Ept} {c b : Chg} {fk : Nat} {err : Int} (hf : e.fits) (hsm : e.small) (hce : eptB e = true) (hk : 1 ≤ c.kind ∧ c.kind ≤ 12) (hlean : leanB c = true) (hkp : kindsP[c.kind.toNat]? = some (fn (.func fk) [])) (hbk : b.idn.small) (hf2 : e2.fits) (hce2 : eptB e2 = true) (hm : ∀ (wb ob : Nat) (v : Value), FunD Try.prog fk [ptr wb 0] [resW wb ob c (back0 c), resO ob e (ints e.suites) (is v) (ints e.anchors) (ints e.hashes), oweRes 55 4 (e.ids.map rowId) v] (int 0) [resW wb ob c b, cellsRes true ob 35 (rowEp e2)]) : Fun Try.prog 38 [agg (rowEp e), agg (rowChg c)] (tup [agg (rowEp e2), agg (rowChg b), int 0]) := by
 refine Fun.of Try.func38 rfl rfl (by exact Nat.le_of_ble_eq_true rfl) fun M0 w0 => ?_
 refine Tr.seq (Tr.regT (tp rfl (ok_box rfl (VL.le (vl rfl) (agg_cellsP _))) (tp rfl (ok_box rfl (VL.le (vl rfl) (agg_cellsP _))) ?_)))
 refine TO.alloc rfl rfl (by decide) rfl z35 zo35 (fun b1 => ?_)
 refine TO.alloc rfl rfl (by decide) rfl z58 zo58 (fun b2 => ?_)
 refine tm rfl (TO.nil (Fin.go (Tr.seq (Tr.seq (Tr.reg0 (co rfl (ok_loadA rfl agg35 sz35 (vl rfl) rfl rfl) (co rfl (ok_call rfl (w_ECheck hf) ⟨ke rfl, trivial⟩) (co rfl (ki rfl rfl rfl rfl) (Ch.nil (Fin.go ?_))))))))))
 refine Tr.cn rfl ?_ ?_ <;> intro h1 q1
 exfalso; rw [if_pos hce] at h1; exact absurd h1 (by decide)
 refine Tr.skip (Fin.go (Tr.seq (Tr.seq (Tr.reg0 (co rfl (kfa rfl fo58_1 rfl rfl) (co rfl (kl1 rfl one3 rfl) (co rfl (ki rfl rfl rfl rfl) (cm rfl ?_))))))))
 refine Ch.cs 18 rfl ?_ ?_ <;> intro h2 q2
 exfalso; have := q2; omega
 refine cy h2 rfl (kfa rfl fo58_1 rfl rfl) (cy h2 rfl (kl1 rfl one3 rfl) (cy h2 rfl (ki rfl rfl rfl rfl) (co rfl (kpf rfl rfl h2 rfl) (cm rfl ?_))))
 refine Ch.cs 23 rfl ?_ ?_ <;> intro h3 q3
 exfalso; have := q3; omega
 refine cy h3 rfl (ok_loadA rfl agg58 sz58 (vl rfl) rfl rfl) ?_
 refine cy h3 rfl (ok_call rfl (w_lean (c := c)) ⟨ke rfl, trivial⟩) ?_
 refine cy h3 rfl (ok_not rfl (vl rfl)) (co rfl (kpf rfl rfl h3 rfl) (Ch.nil (Fin.go (wk5 2 3 4 5 27 rfl ?_))))
 refine Tr.cn rfl ?_ ?_ <;> intro h4 q4
 rw [hlean] at h4; exact absurd h4 (by decide)
 refine Tr.skip (Fin.go (Tr.seq (Tr.regT (tp rfl (ok_loadA rfl agg35 sz35 (vl rfl) rfl rfl) ?_))))
 refine TO.callV rfl rfl (by decide) rfl (w_CopyEn hsm) ⟨ke rfl, trivial⟩ (fun v1 => ?_)
 refine TO.alloc rfl rfl (by decide) rfl z35 zo35 (fun b3 => ?_)
 refine TO.store_all 0 rfl rfl rfl (vl rfl) (VL.le (vl rfl) (agg_cellsP _)) rfl sz35 rfl rfl (TO.nil (Fin.go (Tr.seq (Tr.regT (tp rfl (ok_loadA rfl agg58 sz58 (vl rfl) rfl rfl) (tp rfl (kfa rfl fo58_0 rfl rfl) (tp rfl (kl1 rfl one3 rfl) (tp rfl (ok_build (rows := [(0, [_])]) rfl bl58 zo58 ⟨⟨rfl, (VL.le (vl rfl) (one_cellsP _))⟩, trivial⟩ rfl) (tp rfl (ok_build (rows := [(0, [_]), (1, _), (2, _)]) rfl bl112 zo112 ⟨⟨rfl, (VL.le (vl rfl) (one_cellsP _))⟩, ⟨⟨rfl, (VL.le (vl rfl) (agg_cellsP _))⟩, ⟨⟨rfl, (VL.le (vl rfl) (agg_cellsP _))⟩, trivial⟩⟩⟩ rfl) ?_)))))))))
 refine TO.boxm rfl rfl (by decide) rfl (VL.le (vl rfl) (agg_cellsP _)) (fun b4 => ?_)
 refine tm rfl (TO.nil (Fin.go (wk5 3 4 5 7 8 rfl (Tr.seq (Tr.seq (Tr.leC 0 (ptr b3 0 :: rowWt c (back0 c)) rfl ⟨Pr.le_refl _, Pr.le_refl _, Pr.le_refl _, Pr.le_refl _, Pr.le_refl _, Pr.le_refl _, Pr.le_refl _, Pr.le_refl _, Pr.le_refl _, Pr.le_refl _, Pr.le_refl _, Pr.le_refl _, Pr.le_refl _, Pr.le_refl _, Pr.le_refl _, Pr.le_refl _, nil_slice 15, trivial⟩ (Tr.regOne mixed 5 (by kernel_rfl) (ChOne.op rfl rfl (by decide) (ok_call rfl (w_kinds) trivial) (ChOne.op rfl rfl (by decide) (kfa rfl fo58_1 rfl rfl) (ChOne.op rfl rfl (by decide) (kl1 rfl one3 rfl) (ChOne.op rfl rfl (by decide) (ok_index1 rfl Try.underlying114 one113 sz113 (vl rfl) (vl rfl) (by omega) (by omega) hkp) (ChOne.op rfl rfl (by decide) (ok_move rfl (vl rfl)) ?_))))))))))))
 refine ChOne.turn _ rfl (by decide) (turn_callv _ rfl rfl (vl rfl) (hm _ _ _) ⟨ke rfl, trivial⟩ ((perm_at (j := 0) rfl).trans (List.Perm.cons _ ((perm_at (j := 0) rfl).trans (List.Perm.cons _ ((perm_at (j := 0) rfl).trans (List.Perm.cons _ (List.Perm.refl _)))))))) ?_
 refine cm rfl (Ch.nil (Fin.go (Tr.seq (Tr.reg0 (cm rfl (co rfl (ki rfl rfl rfl rfl) (Ch.nil (Fin.go (wk6 4 5 7 8 9 45 rfl ?_)))))))))
 refine Tr.cn rfl ?_ ?_ <;> intro h5 q5
 exact absurd h5 (by decide)
 refine Tr.skip (Fin.go (Tr.seq (Tr.seq (Tr.reg0 (co rfl (ok_rd 1 rfl (rd_loadA rfl agg35 sz35 (vl rfl) rfl rfl)) ?_)))))
 refine co rfl (ok_call rfl (w_ECheck (e := e2) hf2) ⟨ke rfl, trivial⟩) ?_
 refine co rfl (ki rfl rfl rfl rfl) (Ch.nil (Fin.go ?_))
 refine Tr.cn rfl ?_ ?_ <;> intro h6 q6
 exfalso; rw [if_pos hce2] at h6; exact absurd h6 (by decide)
 refine Tr.skip (Fin.go (Tr.seq (Tr.regX mixed [some (0, 1, false, 0), none, none, none, some (0, 0, false, 0), none, some (0, 3, true, 0), some (0, 2, true, 0), none] (by kernel_rfl) (xrd 1 rfl rfl (rd_loadA rfl agg35 sz35 (vl rfl) rfl rfl) (xm rfl (xo rfl (fun _ => okp_nilCheck rfl (vl rfl)) (xo rfl (fun _ => okp_fieldAddr rfl fo112_2 (vl rfl)) (xrd 0 rfl rfl (rd_loadA rfl agg58 sz58 (vl rfl) rfl rfl) ?_))))))))
 refine xo rfl (fun _ => ok_call rfl (w_CopyC (c := b) hbk) ⟨ke rfl, trivial⟩) ?_
 refine Cx.ef0 3 rfl rfl (ef_store rfl rfl (vl rfl) (VL.le (vl rfl) (agg_cellsP _)) sz35 rfl (by exact Nat.le_of_ble_eq_true rfl) rfl) (Cx.ef0 2 rfl rfl (ef_store rfl rfl (vl rfl) (VL.le (vl rfl) (agg_cellsP _)) sz58 rfl (by exact Nat.le_of_ble_eq_true rfl) rfl) (xm rfl ?_))
 refine Cx.nil ⟨rfl, ?_⟩
 refine FinX.done (AllC.cons (AllC.cons (AllC.cons (AllC.cons (AllC.map _))))) (Fin.go (wk3 4 5 6 rfl (Tr.ret (Fin.retX3 rfl (RVal.cell 3 rfl rfl agg35 sz35 rfl (Pr.le_refl _)) (RVal.cell 2 rfl rfl agg58 sz58 rfl (Pr.le_refl _)) (RVal.tmp rfl (Pr.le_refl _)) ?_))))
 refine tup_le ⟨?_, ?_, ?_, trivial⟩
 · exact Pr.le_refl _
 · exact Pr.le_refl _
 · exact Pr.le_refl _
set_option maxRecDepth 20000 in
set_option maxHeartbeats 1000000 in
theorem w_donesY {e e2 : Ept} {c b : Chg} {fk : Nat} {err : Int} (hf : e.fits) (hsm : e.small) (hce : eptB e = true) (hk : 1 ≤ c.kind ∧ c.kind ≤ 12) (hlean : leanB c = true) (hkp : kindsP[c.kind.toNat]? = some (fn (.func fk) [])) (hbk : b.idn.small) (hf2 : e2.fits) (hce2 : eptB e2 = true) (hm : ∀ (wb ob : Nat) (v : Value), FunD Try.prog fk [ptr wb 0] [resW wb ob c (back0 c), resO ob e (is v) (idns e.ids) (ints e.anchors) (ints e.hashes), oweRes 3 1 (e.suites.map fun n => [int n]) v] (int 0) [resW wb ob c b, cellsRes true ob 35 (rowEp e2)]) : Fun Try.prog 38 [agg (rowEp e), agg (rowChg c)] (tup [agg (rowEp e2), agg (rowChg b), int 0]) := by
 refine Fun.of Try.func38 rfl rfl (by exact Nat.le_of_ble_eq_true rfl) fun M0 w0 => ?_
 refine Tr.seq (Tr.regT (tp rfl (ok_box rfl (VL.le (vl rfl) (agg_cellsP _))) (tp rfl (ok_box rfl (VL.le (vl rfl) (agg_cellsP _))) ?_)))
 refine TO.alloc rfl rfl (by decide) rfl z35 zo35 (fun b1 => ?_)
 refine TO.alloc rfl rfl (by decide) rfl z58 zo58 (fun b2 => ?_)
 refine tm rfl (TO.nil (Fin.go (Tr.seq (Tr.seq (Tr.reg0 (co rfl (ok_loadA rfl agg35 sz35 (vl rfl) rfl rfl) (co rfl (ok_call rfl (w_ECheck hf) ⟨ke rfl, trivial⟩) (co rfl (ki rfl rfl rfl rfl) (Ch.nil (Fin.go ?_))))))))))
 refine Tr.cn rfl ?_ ?_ <;> intro h1 q1
 exfalso; rw [if_pos hce] at h1; exact absurd h1 (by decide)
 refine Tr.skip (Fin.go (Tr.seq (Tr.seq (Tr.reg0 (co rfl (kfa rfl fo58_1 rfl rfl) (co rfl (kl1 rfl one3 rfl) (co rfl (ki rfl rfl rfl rfl) (cm rfl ?_))))))))
 refine Ch.cs 18 rfl ?_ ?_ <;> intro h2 q2
 exfalso; have := q2; omega
 refine cy h2 rfl (kfa rfl fo58_1 rfl rfl) (cy h2 rfl (kl1 rfl one3 rfl) (cy h2 rfl (ki rfl rfl rfl rfl) (co rfl (kpf rfl rfl h2 rfl) (cm rfl ?_))))
 refine Ch.cs 23 rfl ?_ ?_ <;> intro h3 q3
 exfalso; have := q3; omega
 refine cy h3 rfl (ok_loadA rfl agg58 sz58 (vl rfl) rfl rfl) ?_
 refine cy h3 rfl (ok_call rfl (w_lean (c := c)) ⟨ke rfl, trivial⟩) ?_
 refine cy h3 rfl (ok_not rfl (vl rfl)) (co rfl (kpf rfl rfl h3 rfl) (Ch.nil (Fin.go (wk5 2 3 4 5 27 rfl ?_))))
 refine Tr.cn rfl ?_ ?_ <;> intro h4 q4
 rw [hlean] at h4; exact absurd h4 (by decide)
 refine Tr.skip (Fin.go (Tr.seq (Tr.regT (tp rfl (ok_loadA rfl agg35 sz35 (vl rfl) rfl rfl) ?_))))
 refine TO.callV rfl rfl (by decide) rfl (w_CopyEs hsm) ⟨ke rfl, trivial⟩ (fun v1 => ?_)
 refine TO.alloc rfl rfl (by decide) rfl z35 zo35 (fun b3 => ?_)
 refine TO.store_all 0 rfl rfl rfl (vl rfl) (VL.le (vl rfl) (agg_cellsP _)) rfl sz35 rfl rfl (TO.nil (Fin.go (Tr.seq (Tr.regT (tp rfl (ok_loadA rfl agg58 sz58 (vl rfl) rfl rfl) (tp rfl (kfa rfl fo58_0 rfl rfl) (tp rfl (kl1 rfl one3 rfl) (tp rfl (ok_build (rows := [(0, [_])]) rfl bl58 zo58 ⟨⟨rfl, (VL.le (vl rfl) (one_cellsP _))⟩, trivial⟩ rfl) (tp rfl (ok_build (rows := [(0, [_]), (1, _), (2, _)]) rfl bl112 zo112 ⟨⟨rfl, (VL.le (vl rfl) (one_cellsP _))⟩, ⟨⟨rfl, (VL.le (vl rfl) (agg_cellsP _))⟩, ⟨⟨rfl, (VL.le (vl rfl) (agg_cellsP _))⟩, trivial⟩⟩⟩ rfl) ?_)))))))))
 refine TO.boxm rfl rfl (by decide) rfl (VL.le (vl rfl) (agg_cellsP _)) (fun b4 => ?_)
 refine tm rfl (TO.nil (Fin.go (wk5 3 4 5 7 8 rfl (Tr.seq (Tr.seq (Tr.leC 0 (ptr b3 0 :: rowWt c (back0 c)) rfl ⟨Pr.le_refl _, Pr.le_refl _, Pr.le_refl _, Pr.le_refl _, Pr.le_refl _, Pr.le_refl _, Pr.le_refl _, Pr.le_refl _, Pr.le_refl _, Pr.le_refl _, Pr.le_refl _, Pr.le_refl _, Pr.le_refl _, Pr.le_refl _, Pr.le_refl _, Pr.le_refl _, nil_slice 15, trivial⟩ (Tr.regOne mixed 5 (by kernel_rfl) (ChOne.op rfl rfl (by decide) (ok_call rfl (w_kinds) trivial) (ChOne.op rfl rfl (by decide) (kfa rfl fo58_1 rfl rfl) (ChOne.op rfl rfl (by decide) (kl1 rfl one3 rfl) (ChOne.op rfl rfl (by decide) (ok_index1 rfl Try.underlying114 one113 sz113 (vl rfl) (vl rfl) (by omega) (by omega) hkp) (ChOne.op rfl rfl (by decide) (ok_move rfl (vl rfl)) ?_))))))))))))
 refine ChOne.turn _ rfl (by decide) (turn_callv _ rfl rfl (vl rfl) (hm _ _ _) ⟨ke rfl, trivial⟩ ((perm_at (j := 0) rfl).trans (List.Perm.cons _ ((perm_at (j := 0) rfl).trans (List.Perm.cons _ ((perm_at (j := 0) rfl).trans (List.Perm.cons _ (List.Perm.refl _)))))))) ?_
 refine cm rfl (Ch.nil (Fin.go (Tr.seq (Tr.reg0 (cm rfl (co rfl (ki rfl rfl rfl rfl) (Ch.nil (Fin.go (wk6 4 5 7 8 9 45 rfl ?_)))))))))
 refine Tr.cn rfl ?_ ?_ <;> intro h5 q5
 exact absurd h5 (by decide)
 refine Tr.skip (Fin.go (Tr.seq (Tr.seq (Tr.reg0 (co rfl (ok_rd 1 rfl (rd_loadA rfl agg35 sz35 (vl rfl) rfl rfl)) ?_)))))
 refine co rfl (ok_call rfl (w_ECheck (e := e2) hf2) ⟨ke rfl, trivial⟩) ?_
 refine co rfl (ki rfl rfl rfl rfl) (Ch.nil (Fin.go ?_))
 refine Tr.cn rfl ?_ ?_ <;> intro h6 q6
 exfalso; rw [if_pos hce2] at h6; exact absurd h6 (by decide)
 refine Tr.skip (Fin.go (Tr.seq (Tr.regX mixed [some (0, 1, false, 0), none, none, none, some (0, 0, false, 0), none, some (0, 3, true, 0), some (0, 2, true, 0), none] (by kernel_rfl) (xrd 1 rfl rfl (rd_loadA rfl agg35 sz35 (vl rfl) rfl rfl) (xm rfl (xo rfl (fun _ => okp_nilCheck rfl (vl rfl)) (xo rfl (fun _ => okp_fieldAddr rfl fo112_2 (vl rfl)) (xrd 0 rfl rfl (rd_loadA rfl agg58 sz58 (vl rfl) rfl rfl) ?_))))))))
 refine xo rfl (fun _ => ok_call rfl (w_CopyC (c := b) hbk) ⟨ke rfl, trivial⟩) ?_
 refine Cx.ef0 3 rfl rfl (ef_store rfl rfl (vl rfl) (VL.le (vl rfl) (agg_cellsP _)) sz35 rfl (by exact Nat.le_of_ble_eq_true rfl) rfl) (Cx.ef0 2 rfl rfl (ef_store rfl rfl (vl rfl) (VL.le (vl rfl) (agg_cellsP _)) sz58 rfl (by exact Nat.le_of_ble_eq_true rfl) rfl) (xm rfl ?_))
 refine Cx.nil ⟨rfl, ?_⟩
 refine FinX.done (AllC.cons (AllC.cons (AllC.cons (AllC.cons (AllC.map _))))) (Fin.go (wk3 4 5 6 rfl (Tr.ret (Fin.retX3 rfl (RVal.cell 3 rfl rfl agg35 sz35 rfl (Pr.le_refl _)) (RVal.cell 2 rfl rfl agg58 sz58 rfl (Pr.le_refl _)) (RVal.tmp rfl (Pr.le_refl _)) ?_))))
 refine tup_le ⟨?_, ?_, ?_, trivial⟩
 · exact Pr.le_refl _
 · exact Pr.le_refl _
 · exact Pr.le_refl _
end Go.Proofs.Ytflodcidhlmaaaa
