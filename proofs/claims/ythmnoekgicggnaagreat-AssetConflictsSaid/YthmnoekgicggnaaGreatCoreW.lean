/-
  Slices whose elements are ours: append onto an empty slice, parts of them, clear; and they are turned no more.
-/
import Derived.Test.YthmnoekgicggnaaGreatCoreV
namespace Cp
open Go Go.RowKit Go.Great

section
variable {P : Program} {n : Nat} {E : Env} {M0 : Av} {w0 : World} {S : Nat → Prop} {rs : List Res} {o : Oper}

theorem run_append_void (w : World) (A : Option Addr) (t ty e : TypeId) (i : TypeInfo) (z : Value) (ht : P.underlying t = some (.slice e)) (hi : P.info? e = some i) (hz : i.zero = some z)
    (a : Addr) (n c : Nat) (news : List Value) (hl : news.length = n * i.size) (hnews : ∀ j v, news[j]? = some v → w.cell? (a.add j) = some v)
    (h0 : 0 < n) (h63 : (n : Int) ≤ 9223372036854775807) (h48 : n * i.bytes ≤ 281474976710656) :
    (Builtin.append_ #[t, t] ty #[.slice A 0 0, .slice (some a) n c]).run P w =
      .ok (.slice (some ⟨w.heap.size, 0, none⟩) n (grownCap w n 0 e)) (w.drew.alloc (.cells (news.toArray ++ Builtin.zeroCells z.cells (grownCap w n 0 e - n)) e)) := by
  cases A with
  | none => exact run_append_nil (w := w) t ty e i z ht hi hz a n c news hl hnews h0 h63 h48
  | some b =>
    have := run_append_grow (w := w) t ty e i z ht hi hz b 0 0 [] (by simp) (by simp) a n c news hl hnews (by omega) (by simpa using h63) (by rw [Nat.zero_add, nextslicecap_zero h0]; exact h48)
    simpa using this

/-- append onto a slice of nothing. -/
theorem app_void {M : Av} {w : World} {t ty e : TypeId} {sz bytes : Nat} {zs : List Value} {rows : List (List Pr)} {u : Value} {j : Nat} (A : Option Addr) (ht : P.underlying t = some (.slice e)) (hz : sizeB P e = some sz) (hby : bytesB P e = some bytes) (hze : zeroB P e = some zs) (hzl : zs.length = sz) (hone : zs.all (·.oneCell') = true) (hsz : 0 < sz)
    (h : HpH M0 w0 S rs M w) (hj : rs[j]? = some noRes) (hu : (slice sz rows).h M w u) (hpos : 0 < rows.length) (hmax : rows.length ≤ maxLen) (hfit : rows.length * bytes ≤ 140737488355328) :
    ∃ v' w' M', (Builtin.append_ #[t, t] ty #[.slice A 0 0, u]).run P w = .ok v' w' ∧ (lens rows.length).h M' w' v' ∧ Ext M w M' w' ∧ HpH M0 w0 S (rs.set j (mutRes e sz rows v')) M' w' := by
  unfold sizeB at hz
  unfold bytesB at hby
  unfold zeroB at hze
  cases hi : P.info? e with
  | none => rw [hi] at hz; cases hz
  | some i =>
    rw [hi] at hz hby hze
    simp only [Option.map_some, Option.some.injEq, Option.map_eq_some_iff] at hz hby hze
    obtain ⟨z, hzz, hze⟩ := hze
    have hzc : z.cells.size = sz := by rw [← hzl, ← hze]; simp
    obtain ⟨A', c', rfl, hmc, hcm', hA', hrows'⟩ := hu
    have hu0 : (slice sz rows).h M w (.slice A' rows.length c') := ⟨A', c', rfl, hmc, hcm', hA', hrows'⟩
    obtain ⟨ad', rfl⟩ : ∃ ad', A' = some ad' := by
      obtain ⟨_, b, hb, _⟩ := hrows' 0 _ (List.getElem?_eq_getElem hpos)
      exact ⟨b, hb⟩
    obtain ⟨news, hfl, hcell⟩ := slice_flat hsz hu0
    have hrun := run_append_void (P := P) w A t ty e i z ht hi hzz ad' rows.length c' news (by rw [hz]; exact hfl.1) (fun k u hk => (hcell k u hk).1) hpos (by unfold maxLen at hmax; omega) (by rw [hby]; omega)
    generalize hcap : grownCap w rows.length 0 e = cap at hrun
    have hge : rows.length ≤ cap := by rw [← hcap]; exact grownCap_ge _ _ _ _
    have hle : cap ≤ maxLen := by rw [← hcap]; exact grownCap_le_maxLen _ _ _ _ hmax
    generalize hzc' : Builtin.zeroCells z.cells (cap - rows.length) = zc at hrun
    have hzs : zc.size = (cap - rows.length) * sz := by rw [← hzc', size_zeroCells, hzc]
    have hzo : ∀ c ∈ zc.toList, c.oneCell' = true := by rw [← hzc']; exact zeroCells_one hze hone
    have hb : Below w.heap.size w (w.drew.alloc (.cells (news.toArray ++ zc) e)) := ((Below.refl _ _).drew).alloc (Nat.le_refl _) _
    have h2 := Ext.below (M := M) hb
    have hext : Ext M w (fun b o => M b o ∨ b = w.heap.size) (w.drew.alloc (.cells (news.toArray ++ zc) e)) := by
      refine ⟨h2.size, fun a v hc hm => ⟨fun hx => ?_, (h2.keep a v hc hm).2⟩, fun b o ho hp hm => ⟨fun hx => ?_, (h2.obj b o ho hp hm).2⟩⟩
      · rcases hx with hx | hx
        · exact hm hx
        · have := cell_lt hc; omega
      · rcases hx with hx | hx
        · exact hm hx
        · subst hx; simp at ho
    have hs1 : (w.drew.alloc (.cells (news.toArray ++ zc) e)).heap.size = w.heap.size + 1 := by simp
    refine ⟨_, _, fun b o => M b o ∨ b = w.heap.size, hrun, ⟨_, _, rfl⟩, hext, ?_⟩
    refine h.replace hj hext hb.os hb.tape hb.output (fun k hk _ => hb.block k hk) rfl (fun b o hm _ => .inl hm) (fun b o hx => ?_) ?_ rfl (fun b hbk => ?_)
    · rcases hx with hx | hx
      · have := h.bd _ _ hx; omega
      · omega
    · refine ⟨w.heap.size, cap, zc.toList, rfl, hge, hle, by simpa using hzs, fun o => .inr rfl, news ++ zc.toList, ?_, ?_, ?_⟩
      · have hh : (w.drew.alloc (.cells (news.toArray ++ zc) e)).heap[w.heap.size]? = some (.cells (news.toArray ++ zc) e (0, 0)) := heap_alloc_new w.drew _
        rw [hh]; simp
      · exact ((hfl.st hext).hl hsz).app (hl_is _ _ _)
      · intro c hc
        rcases List.mem_append.1 hc with hc | hc
        · exact hfl.2.1 c hc
        · exact hzo c hc
    · have hbk' : some w.heap.size = some b := hbk
      injection hbk' with e1
      subst e1
      exact ⟨by rw [hs1]; omega, .inr (Nat.le_refl _)⟩
theorem ef_appvoid {t e : TypeId} {x y : Operand} {sz' : Nat} {sz bytes d : Nat} {zs : List Value} {rows : List (List Pr)} {j : Nat} (hg : o.guard = none) (hd : o.dst = some d) (hn : d < n) (ho : o.op = .call { callee := .builtin .append, args := #[x, y], argTypes := #[t, t] })
    (ht : P.underlying t = some (.slice e)) (hz : sizeB P e = some sz) (hby : bytesB P e = some bytes) (hze : zeroB P e = some zs) (hzl : zs.length = sz) (hone : zs.all (·.oneCell') = true) (hsz : 0 < sz)
    (hx : VL E x (full sz' [])) (hy : VL E y (slice sz rows)) (hpos : 0 < rows.length) (hmax : rows.length ≤ maxLen) (hfit : rows.length * bytes ≤ 140737488355328) : OpEf P M0 w0 S n j (SR.c noRes) ⟨d, mutRes e sz rows⟩ o E (lens rows.length) := by
  refine ⟨hg, fun M w a rs hszn he hI hj => ?_⟩
  have h2 := hy.ev he (by simp [ho, Op.operands, Call.operands])
  obtain ⟨_, A, h1⟩ := hx.ev he (by simp [ho, Op.operands, Call.operands])
  simp only [List.length_nil] at h1
  obtain ⟨v', w', M', hrun, h3, h4, h5⟩ := app_void A (ty := o.type) ht hz hby hze hzl hone hsz hI hj h2 hpos hmax hfit
  have hrun2 : (execOp a.eval o).run P w = .ok (.value v') w' := by simp [execOp, ho, resolve, invoke, builtin, h1, hrun]
  rw [hrun2]
  refine ⟨M', h3, h4, ?_⟩
  have : (SR.at_ (a.put o.dst v') ⟨d, mutRes e sz rows⟩) = mutRes e sz rows v' := by unfold SR.at_; rw [hd, put_same (by rw [hszn]; exact hn)]
  rw [this]; exact h5


/-! ### parts of it -/
theorem okb_len {I : Asn} {t e : TypeId} {x : Operand} {A : Option Addr} {m cap : Nat} (ho : o.op = .call { callee := .builtin .len, args := #[x], argTypes := #[t] }) (ht : P.underlying t = some (.slice e)) (hx : VL E x (is (.slice A m cap))) : OpOK P I o E (int m) :=
  OpOK.same fun M w a he _ => by
    have h1 : a.eval x = _ := hx.ev he (by simp [ho, Op.operands, Call.operands])
    exact ⟨.int .i64 m, by simp [execOp, ho, resolve, invoke, builtin, Builtin.len_, h1, run_underlying ht, goInt], rfl⟩
theorem okb_sliceTo {I : Asn} {t e : TypeId} {x y : Operand} {k : IntKind} {h : Int} {sz b m cap : Nat} (ho : o.op = .slice t x none (some y) none) (ht : P.underlying t = some (.slice e)) (hz : sizeB P e = some sz) (hx : VL E x (is (.slice (some ⟨b, 0, none⟩) m cap))) (hy : VL E y (is (.int k h))) (h0 : 0 ≤ h) (hl : h ≤ m) (hc : m ≤ cap) (h1m : 0 < cap) :
    OpOK P I o E (is (.slice (some ⟨b, 0, none⟩) h.toNat cap)) :=
  OpOK.same fun M w a he _ => by
    have h1 : a.eval x = _ := hx.ev he (by simp [ho, Op.operands])
    have h3 : a.eval y = _ := hy.ev he (by simp [ho, Op.operands])
    have hb : h ≤ (cap : Int) := by omega
    refine ⟨_, ?_, rfl⟩
    simp [execOp, ho, h1, h3, Instr.sliceAt, Instr.slice, run_underlying ht, Instr.sliceBounds, Instr.sliceBound, asIntOf, h0, hb, run_size hz]
    intro _; rfl
theorem okb_sliceFrom {I : Asn} {t e : TypeId} {x y : Operand} {k : IntKind} {l : Int} {sz b m cap : Nat} (ho : o.op = .slice t x (some y) none none) (ht : P.underlying t = some (.slice e)) (hz : sizeB P e = some sz) (hx : VL E x (is (.slice (some ⟨b, 0, none⟩) m cap))) (hy : VL E y (is (.int k l))) (h0 : 0 ≤ l) (hl : l < m) (hc : m ≤ cap) :
    OpOK P I o E (is (.slice (some ⟨b, l.toNat * sz, none⟩) (m - l.toNat) (cap - l.toNat))) :=
  OpOK.same fun M w a he _ => by
    have h1 : a.eval x = _ := hx.ev he (by simp [ho, Op.operands])
    have h3 : a.eval y = _ := hy.ev he (by simp [ho, Op.operands])
    have hb : l ≤ (m : Int) := by omega
    have hne : ¬ cap = l.toNat := by omega
    refine ⟨_, ?_, rfl⟩
    simp [execOp, ho, h1, h3, Instr.sliceAt, Instr.slice, run_underlying ht, Instr.sliceBounds, Instr.sliceBound, asIntOf, h0, hb, run_size hz, hne, addr_add]
theorem zero_hl {M : Av} {w : World} {zs : List Value} {z : Array Value} {k : Nat} (hz : z.toList = zs) (h0 : 0 < zs.length) : HL M w (List.replicate k (zs.map is)).flatten (Builtin.zeroCells z k).toList := by
  have hlr : ∀ r ∈ List.replicate k (zs.map is), r.length = zs.length := fun r hr => by rw [List.eq_of_mem_replicate hr, List.length_map]
  have hfl := flat_len hlr
  rw [List.length_replicate] at hfl
  have hzs : z.size = zs.length := by rw [← hz]; simp
  refine hl_of (by rw [Array.length_toList, size_zeroCells, hfl, hzs]) fun i p hi => ?_
  have hil : i < k * zs.length := by rw [← hfl]; rcases Nat.lt_or_ge i (List.replicate k (zs.map is)).flatten.length with h | h; exact h; rw [List.getElem?_eq_none h] at hi; cases hi
  have hq : i / zs.length < k := Nat.div_lt_of_lt_mul (by rw [Nat.mul_comm]; exact hil)
  have hm : i % zs.length < zs.length := Nat.mod_lt _ h0
  have he : i / zs.length * zs.length + i % zs.length = i := by rw [Nat.mul_comm]; exact Nat.div_add_mod i _
  rw [← he, flat_at hlr (by rw [List.getElem?_replicate, if_pos hq]) hm, List.getElem?_map, List.getElem?_eq_getElem hm] at hi
  simp only [Option.map_some, Option.some.injEq] at hi
  subst hi
  refine ⟨zs[i % zs.length], ?_, rfl⟩
  have hzl : i < k * z.size := by rw [hzs]; exact hil
  simp only [Builtin.zeroCells, Array.toList_map, Array.toList_range, List.getElem?_map]
  rw [List.getElem?_range hzl]
  subst hz
  simp only [Option.map_some, Option.some.injEq]
  have hm' : i % z.size < z.size := by rw [hzs]; exact hm
  rw [getElem!_pos z _ hm', ← Array.getElem_toList]
  congr 1
theorem ef_clear {t e : TypeId} {x : Operand} {j : Nat} {new : Bool} {b off m cap sz : Nat} {zs : List Value} {T : TypeId} {ps ps' : List Pr} (hg : o.guard = none) (ho : o.op = .call { callee := .builtin .clear, args := #[x], argTypes := #[t] })
    (ht : P.underlying t = some (.slice e)) (hz : sizeB P e = some sz) (hze : zeroB P e = some zs) (hzl : zs.length = sz) (hone : zs.all (·.oneCell') = true) (hsz : 0 < sz) (hx : VL E x (is (.slice (some ⟨b, off, none⟩) m cap))) (hm : 0 < m)
    (hl : off + m * sz ≤ ps.length) (hps : ps.take off ++ (List.replicate m (zs.map is)).flatten ++ ps.drop (off + m * sz) = ps') : OpEf P M0 w0 S n j (SR.c (cellsRes new b T ps)) (SR.c (cellsRes new b T ps')) o E any := by
  refine ⟨hg, fun M w a rs hszn he hI hj => ?_⟩
  have h1 : a.eval x = _ := hx.ev he (by simp [ho, Op.operands, Call.operands])
  unfold zeroB at hze
  cases hi : P.info? e with
  | none => rw [hi] at hze; cases hze
  | some i =>
    rw [hi] at hze
    simp only [Option.map_eq_some_iff] at hze
    obtain ⟨z, hzz, hze⟩ := hze
    have hzc : z.cells.size = sz := by rw [← hzl, ← hze]; simp
    obtain ⟨⟨_, cs, h4, h5, h6⟩, _⟩ := hI.hold _ (List.mem_of_getElem? hj)
    have h5l := h5.length
    have hzs : (Builtin.zeroCells z.cells m).size = m * sz := by rw [size_zeroCells, hzc]
    have h3 : ∀ c ∈ (Builtin.zeroCells z.cells m).toList, c.oneCell' = true := zeroCells_one hze hone
    have hrun : (storeCells ⟨b, off, none⟩ (Builtin.zeroCells z.cells m).toList 0).run P w = .ok () (w.setRow b (cs.take off ++ (Builtin.zeroCells z.cells m).toList ++ cs.drop (off + m * sz)).toArray) := by
      have := run_storeCells_at (P := P) b off T (Builtin.zeroCells z.cells m).toList 0 cs.toArray w h4 (by simp [hzs]; omega) h3
      simpa [hzs] using this
    obtain ⟨m', rfl⟩ : ∃ m', m = m' + 1 := ⟨m - 1, by omega⟩
    have hrun2 : (execOp a.eval o).run P w = .ok (.value (.tuple #[])) (w.setRow b (cs.take off ++ (Builtin.zeroCells z.cells (m' + 1)).toList ++ cs.drop (off + (m' + 1) * sz)).toArray) := by
      simp [execOp, ho, h1, resolve, invoke, builtin, Builtin.clear_, run_underlying ht, zeroValue, typeInfo, hi, hzz, hrun]
    rw [hrun2]
    obtain ⟨h7, h8⟩ := HpH.write (qs := ps') (cs := cs.take off ++ (Builtin.zeroCells z.cells (m' + 1)).toList ++ cs.drop (off + (m' + 1) * sz)) hI hj (by rw [← hps]; exact (((h5.take off).app (zero_hl hze (by omega)))).app (h5.drop (off + (m' + 1) * sz)))
      (fun c hc => by
        simp only [List.mem_append] at hc
        rcases hc with (hc | hc) | hc
        · exact h6 c (List.mem_of_mem_take hc)
        · exact h3 c hc
        · exact h6 c (List.mem_of_mem_drop hc))
    exact ⟨M, trivial, h8, h7⟩

/-! ### rows in the cells -/
theorem cells_at {β : Type} {f : β → List Pr} {l : List β} {qs : List Pr} {sz : Nat} (hf : ∀ x, (f x).length = sz) {i : Nat} {x : β} (h : l[i]? = some x) : ((((l.map f).flatten ++ qs).drop (i * sz)).take sz) = f x := by
  have hl : ∀ r ∈ l.map f, r.length = sz := fun r hr => by obtain ⟨y, _, rfl⟩ := List.mem_map.1 hr; exact hf y
  have hi : i < l.length := by rcases Nat.lt_or_ge i l.length with h' | h'; exact h'; rw [List.getElem?_eq_none h'] at h; cases h
  have hfl := flat_len hl
  rw [List.length_map] at hfl
  have hle : (i + 1) * sz ≤ l.length * sz := Nat.mul_le_mul_right sz hi
  rw [Nat.add_mul, Nat.one_mul] at hle
  apply List.ext_getElem?
  intro k
  rw [List.getElem?_take]
  split
  · rename_i hk
    rw [List.getElem?_drop, List.getElem?_append_left (by rw [hfl]; omega), flat_at hl (by rw [List.getElem?_map, h]; rfl) hk]
  · rename_i hk
    rw [List.getElem?_eq_none (by rw [hf]; omega)]
theorem cells_set {β : Type} {f : β → List Pr} {sz : Nat} (hf : ∀ x, (f x).length = sz) : ∀ {l : List β} {qs : List Pr} {i : Nat} {x : β}, i < l.length → ((l.map f).flatten ++ qs).take (i * sz) ++ f x ++ ((l.map f).flatten ++ qs).drop (i * sz + sz) = ((l.set i x).map f).flatten ++ qs
  | [], _, _, _, h => by simp at h
  | a :: l, qs, 0, x, _ => by
    simp only [List.map_cons, List.flatten_cons, Nat.zero_mul, List.take_zero, List.nil_append, Nat.zero_add, List.set_cons_zero]
    rw [← hf a, List.append_assoc, List.drop_left, List.append_assoc]
  | a :: l, qs, i + 1, x, h => by
    have ih := cells_set hf (l := l) (qs := qs) (i := i) (x := x) (by simpa using h)
    simp only [List.map_cons, List.flatten_cons, List.set_cons_succ]
    have e1 : (i + 1) * sz = (f a).length + i * sz := by rw [hf a, Nat.add_mul]; omega
    rw [List.append_assoc, List.append_assoc, e1, List.take_append, List.take_of_length_le (by omega), show (f a).length + i * sz - (f a).length = i * sz by omega, show (f a).length + i * sz + sz = (f a).length + (i * sz + sz) by omega, List.drop_append, List.drop_of_length_le (by omega), show (f a).length + (i * sz + sz) - (f a).length = i * sz + sz by omega, List.nil_append, List.append_assoc (f a) _ qs, ← ih]
    simp only [List.append_assoc]
theorem cells_clear {β : Type} {f : β → List Pr} {sz : Nat} (hf : ∀ x, (f x).length = sz) {z : β} {l : List β} {qs : List Pr} {i : Nat} (h : i ≤ l.length) :
    ((l.map f).flatten ++ qs).take (i * sz) ++ (List.replicate (l.length - i) (f z)).flatten ++ ((l.map f).flatten ++ qs).drop (i * sz + (l.length - i) * sz) = ((l.take i ++ List.replicate (l.length - i) z).map f).flatten ++ qs := by
  have hl : ∀ r ∈ l.map f, r.length = sz := fun r hr => by obtain ⟨y, _, rfl⟩ := List.mem_map.1 hr; exact hf y
  have hl2 : ∀ r ∈ (l.take i).map f, r.length = sz := fun r hr => by obtain ⟨y, _, rfl⟩ := List.mem_map.1 hr; exact hf y
  have e1 : i * sz + (l.length - i) * sz = ((l.map f).flatten).length := by rw [flat_len hl, List.length_map, ← Nat.add_mul]; congr 1; omega
  have e2 : (l.map f).flatten = ((l.take i).map f).flatten ++ ((l.drop i).map f).flatten := by rw [← List.flatten_append, ← List.map_append, List.take_append_drop]
  have e3 : (((l.take i).map f).flatten).length = i * sz := by rw [flat_len hl2, List.length_map, List.length_take]; congr 1; omega
  rw [e1, List.drop_left, List.map_append, List.flatten_append, List.map_replicate]
  congr 2
  rw [e2, List.append_assoc, ← e3, List.take_left]

theorem TO.openM {ops : Array Oper} {r : List Oper} {Q : Exit → Act → World → Prop} {e : TypeId} {sz : Nat} {rows : List (List Pr)} {v : Value} (j : Nat) (hj : rs[j]? = some (mutRes e sz rows v))
    (k : ∀ (b cap : Nat) (spare : List Value), v = .slice (some ⟨b, 0, none⟩) rows.length cap → rows.length ≤ cap → cap ≤ maxLen → spare.length = (cap - rows.length) * sz → TO P n ops r E (Hp M0 w0 S (rs.set j (cellsRes true b e (rows.flatten ++ spare.map is)))) Q) : TO P n ops r E (Hp M0 w0 S rs) Q :=
  fun m hl a w hs => let ⟨b, cap, spare, h1, h2, h3, h4, h5⟩ := hs.openM j hj; k b cap spare h1 h2 h3 h4 m hl a w h5
theorem cells_len {β : Type} {f : β → List Pr} {l : List β} {qs : List Pr} {sz : Nat} (hf : ∀ x, (f x).length = sz) : ((l.map f).flatten ++ qs).length = l.length * sz + qs.length := by
  rw [List.length_append, flat_len (sz := sz) (fun r hr => by obtain ⟨y, _, rfl⟩ := List.mem_map.1 hr; exact hf y), List.length_map]
theorem map_rows {β : Type} {f : β → List Pr} {l : List β} {sz : Nat} (hf : ∀ x, (f x).length = sz) : ∀ r ∈ l.map f, r.length = sz := fun r hr => by obtain ⟨y, _, rfl⟩ := List.mem_map.1 hr; exact hf y
theorem cells_atN {β : Type} {f : β → List Pr} {l : List β} {qs : List Pr} {sz : Nat} (hf : ∀ x, (f x).length = sz) {i : Nat} {x : β} (h : l[i]? = some x) : ((((l.map f).flatten ++ qs).drop (0 + ((i : Nat) : Int).toNat * sz)).take sz) = f x := by
  rw [Nat.zero_add, Int.toNat_natCast]; exact cells_at hf h
theorem cells_setN {β : Type} {f : β → List Pr} {sz : Nat} (hf : ∀ x, (f x).length = sz) {l : List β} {qs : List Pr} {i : Nat} {x : β} (h : i < l.length) : ((l.map f).flatten ++ qs).take (0 + ((i : Nat) : Int).toNat * sz) ++ f x ++ ((l.map f).flatten ++ qs).drop (0 + ((i : Nat) : Int).toNat * sz + sz) = ((l.set i x).map f).flatten ++ qs := by
  rw [Nat.zero_add, Int.toNat_natCast]; exact cells_set hf h
theorem cells_clearN {β : Type} {f : β → List Pr} {sz : Nat} (hf : ∀ x, (f x).length = sz) {z : β} {l : List β} {qs : List Pr} {i m : Nat} (hm : m = l.length - ((i : Nat) : Int).toNat) (h : i ≤ l.length) :
    ((l.map f).flatten ++ qs).take (((i : Nat) : Int).toNat * sz) ++ (List.replicate m (f z)).flatten ++ ((l.map f).flatten ++ qs).drop (((i : Nat) : Int).toNat * sz + m * sz) = ((l.take i ++ List.replicate (l.length - i) z).map f).flatten ++ qs := by
  rw [Int.toNat_natCast] at hm; subst hm; rw [Int.toNat_natCast]; exact cells_clear hf h

/-! ### what DeleteFunc keeps of them -/
def DelI {β : Type} (p : β → Bool) (l st : List β) (i j : Nat) : Prop := st.length = l.length ∧ i < j ∧ j ≤ l.length ∧ st.take i = (l.take j).filter (fun x => !p x) ∧ st.drop j = l.drop j
theorem del_keep {β : Type} {p : β → Bool} {l st : List β} {i j : Nat} {x : β} (h : DelI p l st i j) (hx : l[j]? = some x) (hp : p x = false) : DelI p l (st.set i x) (i + 1) (j + 1) := by
  obtain ⟨h1, h2, h3, h4, h5⟩ := h
  have hj : j < l.length := by rcases Nat.lt_or_ge j l.length with h' | h'; exact h'; rw [List.getElem?_eq_none h'] at hx; cases hx
  refine ⟨by rw [List.length_set, h1], by omega, hj, ?_, ?_⟩
  · rw [List.take_add_one, List.getElem?_set_self (by omega), List.take_set_of_le (Nat.le_refl _), h4, List.take_add_one, hx, List.filter_append]
    simp [hp]
  · rw [List.drop_set_of_lt (by omega), ← List.drop_drop, ← List.drop_drop, h5]
theorem del_drop {β : Type} {p : β → Bool} {l st : List β} {i j : Nat} {x : β} (h : DelI p l st i j) (hx : l[j]? = some x) (hp : p x = true) : DelI p l st i (j + 1) := by
  obtain ⟨h1, h2, h3, h4, h5⟩ := h
  have hj : j < l.length := by rcases Nat.lt_or_ge j l.length with h' | h'; exact h'; rw [List.getElem?_eq_none h'] at hx; cases hx
  refine ⟨h1, by omega, hj, ?_, ?_⟩
  · rw [h4, List.take_add_one, hx, List.filter_append]; simp [hp]
  · rw [← List.drop_drop, ← List.drop_drop, h5]
theorem del_at {β : Type} {p : β → Bool} {l st : List β} {i j : Nat} (h : DelI p l st i j) : st[j]? = l[j]? := by
  have := congrArg (fun q => q[0]?) h.2.2.2.2
  simpa using this
theorem del_end {β : Type} {p : β → Bool} {l st : List β} {i : Nat} (h : DelI p l st i l.length) : st.take i = l.filter (fun x => !p x) ∧ i = (l.filter (fun x => !p x)).length ∧ st.length = l.length ∧ i < l.length := by
  obtain ⟨h1, h2, h3, h4, h5⟩ := h
  rw [List.take_length] at h4
  exact ⟨h4, by rw [← h4, List.length_take]; omega, h1, h2⟩

/-! ### turned no more -/
theorem St.frzS {b cap sz : Nat} {e : TypeId} {rows : List (List Pr)} {qs : List Pr} (j d : Nat) {p : Pr} (hj : rs[j]? = some (cellsRes true b e (rows.flatten ++ qs))) (hd : E.lookup d = some p) (hp : Pr.le p (is (.slice (some ⟨b, 0, none⟩) rows.length cap)))
    (hl : ∀ r ∈ rows, r.length = sz) (hc : rows.length ≤ cap) (hm : cap ≤ maxLen) (hq : qs.length = (cap - rows.length) * sz)
    {a : Act} {w : World} (h : St n E (Hp M0 w0 S rs) a w) : St n ((d, andIs (.slice (some ⟨b, 0, none⟩) rows.length cap) (slice sz rows)) :: E) (Hp M0 w0 S (rs.set j (appRes e sz (.slice (some ⟨b, 0, none⟩) rows.length cap)))) a w := by
  obtain ⟨M, h1, h2, h3, h4⟩ := h
  obtain ⟨M', h5, h6, h7⟩ := HpH.frz h4 hj hl hc hm hq
  refine ⟨M', h1, h2, fun s q hs => ?_, h6⟩
  simp only [List.lookup] at hs
  split at hs
  · rename_i e1
    have : s = d := by simpa using e1
    subst this
    simp only [Option.some.injEq] at hs
    subst hs
    have h8 := hp _ _ _ (h3 _ _ hd)
    exact ⟨h8, by rw [show a.tmps.getD s undef = _ from h8]; exact h7⟩
  · exact q.st _ _ _ _ _ h5 (h3 s q hs)
theorem Tr.frzS {Q : Exit → Act → World → Prop} {c : Code} {b cap sz : Nat} {e : TypeId} (rows : List (List Pr)) {qs : List Pr} (j d : Nat) {p : Pr} (hj : rs[j]? = some (cellsRes true b e (rows.flatten ++ qs))) (hd : E.lookup d = some p) (hp : Pr.le p (is (.slice (some ⟨b, 0, none⟩) rows.length cap)))
    (hl : ∀ r ∈ rows, r.length = sz) (hc : rows.length ≤ cap) (hm : cap ≤ maxLen) (hq : qs.length = (cap - rows.length) * sz)
    (k : Tr P n ((d, andIs (.slice (some ⟨b, 0, none⟩) rows.length cap) (slice sz rows)) :: E) (Hp M0 w0 S (rs.set j (appRes e sz (.slice (some ⟨b, 0, none⟩) rows.length cap)))) c Q) : Tr P n E (Hp M0 w0 S rs) c Q :=
  Tr.conv (fun _ _ hs => hs.frzS j d hj hd hp hl hc hm hq) k
theorem Fin.frzS {Q : Exit → Act → World → Prop} {x : Exit} {b cap sz : Nat} {e : TypeId} (rows : List (List Pr)) {qs : List Pr} (j d : Nat) {p : Pr} (hj : rs[j]? = some (cellsRes true b e (rows.flatten ++ qs))) (hd : E.lookup d = some p) (hp : Pr.le p (is (.slice (some ⟨b, 0, none⟩) rows.length cap)))
    (hl : ∀ r ∈ rows, r.length = sz) (hc : rows.length ≤ cap) (hm : cap ≤ maxLen) (hq : qs.length = (cap - rows.length) * sz)
    (k : Fin n ((d, andIs (.slice (some ⟨b, 0, none⟩) rows.length cap) (slice sz rows)) :: E) (Hp M0 w0 S (rs.set j (appRes e sz (.slice (some ⟨b, 0, none⟩) rows.length cap)))) Q x) : Fin n E (Hp M0 w0 S rs) Q x :=
  Fin.conv (fun _ _ hs => hs.frzS j d hj hd hp hl hc hm hq) k
end
end Cp
