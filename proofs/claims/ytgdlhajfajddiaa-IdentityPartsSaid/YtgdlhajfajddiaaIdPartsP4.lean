/-
  Part 4 of the texts that prove this claim, merged.
-/
import Derived.Sort.LotA
import Derived.Sort.LotB
import Derived.Sort.LotC
import Derived.Lib.AppendZeros
import Derived.Lib.AppendZerosOnto
import Derived.Test.YtgdlhajfajddiaaIdPartsP3
set_option linter.all false
namespace Cp
open Go Go.RowKit Go.Great

section
variable {P : Program} {n : Nat} {E : Env} {M0 : Av} {w0 : World} {S : Nat → Prop} {rs : List Res} {o : Oper}

theorem run_append_void (w : World) (A : Option Addr) (t ty e : TypeId) (i : TypeInfo) (z : Value) (ht : P.underlying t = some (.slice e)) (hi : P.info? e = some i) (hz : i.zero = some z)
    (a : Addr) (n c : Nat) (news : List Value) (hl : news.length = n * i.size) (hnews : ∀ j v, news[j]? = some v → w.cell? (a.add j) = some v)
    (h0 : 0 < n) (h63 : (n : Int) ≤ 9223372036854775807) (h48 : n * i.bytes ≤ 281474976710656) :
    (Builtin.append_ #[t, t] ty #[.slice A 0 0, .slice (some a) n c]).run P w =
      .ok (.slice (some ⟨w.heap.size, 0, none⟩) n (grownCap w n 0 e)) (w.drew.alloc (.cells (news.toArray ++ Builtin.zeroCells z.cells (grownCap w n 0 e - n)) e)) := by
  cases A with
  | none => exact run_append_nil (w := w) t ty e i z ht hi hz a n c news hl hnews h0 h63 h48
  | some b =>
    have := run_append_grow (w := w) t ty e i z ht hi hz b 0 0 [] (by simp) (by simp) a n c news hl hnews (by omega) (by simpa using h63) (by rw [Nat.zero_add, nextslicecap_zero h0]; exact h48)
    simpa using this

/-- append onto a slice of nothing. -/
theorem app_void {M : Av} {w : World} {t ty e : TypeId} {sz bytes : Nat} {zs : List Value} {rows : List (List Pr)} {u : Value} {j : Nat} (A : Option Addr) (ht : P.underlying t = some (.slice e)) (hz : sizeB P e = some sz) (hby : bytesB P e = some bytes) (hze : zeroB P e = some zs) (hzl : zs.length = sz) (hone : zs.all (·.oneCell') = true) (hsz : 0 < sz)
    (h : HpH M0 w0 S rs M w) (hj : rs[j]? = some noRes) (hu : (slice sz rows).h M w u) (hpos : 0 < rows.length) (hmax : rows.length ≤ maxLen) (hfit : rows.length * bytes ≤ 140737488355328) :
    ∃ v' w' M', (Builtin.append_ #[t, t] ty #[.slice A 0 0, u]).run P w = .ok v' w' ∧ (lens rows.length).h M' w' v' ∧ Ext M w M' w' ∧ HpH M0 w0 S (rs.set j (mutRes e sz rows v')) M' w' := by
  unfold sizeB at hz
  unfold bytesB at hby
  unfold zeroB at hze
  cases hi : P.info? e with
  | none => rw [hi] at hz; cases hz
  | some i =>
    rw [hi] at hz hby hze
    simp only [Option.map_some, Option.some.injEq, Option.map_eq_some_iff] at hz hby hze
    obtain ⟨z, hzz, hze⟩ := hze
    have hzc : z.cells.size = sz := by rw [← hzl, ← hze]; simp
    obtain ⟨A', c', rfl, hmc, hcm', hA', hrows'⟩ := hu
    have hu0 : (slice sz rows).h M w (.slice A' rows.length c') := ⟨A', c', rfl, hmc, hcm', hA', hrows'⟩
    obtain ⟨ad', rfl⟩ : ∃ ad', A' = some ad' := by
      obtain ⟨_, b, hb, _⟩ := hrows' 0 _ (List.getElem?_eq_getElem hpos)
      exact ⟨b, hb⟩
    obtain ⟨news, hfl, hcell⟩ := slice_flat hsz hu0
    have hrun := run_append_void (P := P) w A t ty e i z ht hi hzz ad' rows.length c' news (by rw [hz]; exact hfl.1) (fun k u hk => (hcell k u hk).1) hpos (by unfold maxLen at hmax; omega) (by rw [hby]; omega)
    generalize hcap : grownCap w rows.length 0 e = cap at hrun
    have hge : rows.length ≤ cap := by rw [← hcap]; exact grownCap_ge _ _ _ _
    have hle : cap ≤ maxLen := by rw [← hcap]; exact grownCap_le_maxLen _ _ _ _ hmax
    generalize hzc' : Builtin.zeroCells z.cells (cap - rows.length) = zc at hrun
    have hzs : zc.size = (cap - rows.length) * sz := by rw [← hzc', size_zeroCells, hzc]
    have hzo : ∀ c ∈ zc.toList, c.oneCell' = true := by rw [← hzc']; exact zeroCells_one hze hone
    have hb : Below w.heap.size w (w.drew.alloc (.cells (news.toArray ++ zc) e)) := ((Below.refl _ _).drew).alloc (Nat.le_refl _) _
    have h2 := Ext.below (M := M) hb
    have hext : Ext M w (fun b o => M b o ∨ b = w.heap.size) (w.drew.alloc (.cells (news.toArray ++ zc) e)) := by
      refine ⟨h2.size, fun a v hc hm => ⟨fun hx => ?_, (h2.keep a v hc hm).2⟩, fun b o ho hp hm => ⟨fun hx => ?_, (h2.obj b o ho hp hm).2⟩⟩
      · rcases hx with hx | hx
        · exact hm hx
        · have := cell_lt hc; omega
      · rcases hx with hx | hx
        · exact hm hx
        · subst hx; simp at ho
    have hs1 : (w.drew.alloc (.cells (news.toArray ++ zc) e)).heap.size = w.heap.size + 1 := by simp
    refine ⟨_, _, fun b o => M b o ∨ b = w.heap.size, hrun, ⟨_, _, rfl⟩, hext, ?_⟩
    refine h.replace hj hext hb.os hb.tape hb.output (fun k hk _ => hb.block k hk) rfl (fun b o hm _ => .inl hm) (fun b o hx => ?_) ?_ rfl (fun b hbk => ?_)
    · rcases hx with hx | hx
      · have := h.bd _ _ hx; omega
      · omega
    · refine ⟨w.heap.size, cap, zc.toList, rfl, hge, hle, by simpa using hzs, fun o => .inr rfl, news ++ zc.toList, ?_, ?_, ?_⟩
      · have hh : (w.drew.alloc (.cells (news.toArray ++ zc) e)).heap[w.heap.size]? = some (.cells (news.toArray ++ zc) e (0, 0)) := heap_alloc_new w.drew _
        rw [hh]; simp
      · exact ((hfl.st hext).hl hsz).app (hl_is _ _ _)
      · intro c hc
        rcases List.mem_append.1 hc with hc | hc
        · exact hfl.2.1 c hc
        · exact hzo c hc
    · have hbk' : some w.heap.size = some b := hbk
      injection hbk' with e1
      subst e1
      exact ⟨by rw [hs1]; omega, .inr (Nat.le_refl _)⟩
theorem ef_appvoid {t e : TypeId} {x y : Operand} {sz' : Nat} {sz bytes d : Nat} {zs : List Value} {rows : List (List Pr)} {j : Nat} (hg : o.guard = none) (hd : o.dst = some d) (hn : d < n) (ho : o.op = .call { callee := .builtin .append, args := #[x, y], argTypes := #[t, t] })
    (ht : P.underlying t = some (.slice e)) (hz : sizeB P e = some sz) (hby : bytesB P e = some bytes) (hze : zeroB P e = some zs) (hzl : zs.length = sz) (hone : zs.all (·.oneCell') = true) (hsz : 0 < sz)
    (hx : VL E x (full sz' [])) (hy : VL E y (slice sz rows)) (hpos : 0 < rows.length) (hmax : rows.length ≤ maxLen) (hfit : rows.length * bytes ≤ 140737488355328) : OpEf P M0 w0 S n j (SR.c noRes) ⟨d, mutRes e sz rows⟩ o E (lens rows.length) := by
  refine ⟨hg, fun M w a rs hszn he hI hj => ?_⟩
  have h2 := hy.ev he (by simp [ho, Op.operands, Call.operands])
  obtain ⟨_, A, h1⟩ := hx.ev he (by simp [ho, Op.operands, Call.operands])
  simp only [List.length_nil] at h1
  obtain ⟨v', w', M', hrun, h3, h4, h5⟩ := app_void A (ty := o.type) ht hz hby hze hzl hone hsz hI hj h2 hpos hmax hfit
  have hrun2 : (execOp a.eval o).run P w = .ok (.value v') w' := by simp [execOp, ho, resolve, invoke, builtin, h1, hrun]
  rw [hrun2]
  refine ⟨M', h3, h4, ?_⟩
  have : (SR.at_ (a.put o.dst v') ⟨d, mutRes e sz rows⟩) = mutRes e sz rows v' := by unfold SR.at_ Slot.val; dsimp only; rw [hd, put_same (by rw [hszn]; exact hn)]
  rw [this]; exact h5


theorem okb_len {I : Asn} {t e : TypeId} {x : Operand} {A : Option Addr} {m cap : Nat} (ho : o.op = .call { callee := .builtin .len, args := #[x], argTypes := #[t] }) (ht : P.underlying t = some (.slice e)) (hx : VL E x (is (.slice A m cap))) : OpOK P I o E (int m) :=
  OpOK.same fun M w a he _ => by
    have h1 : a.eval x = _ := hx.ev he (by simp [ho, Op.operands, Call.operands])
    exact ⟨.int .i64 m, by simp [execOp, ho, resolve, invoke, builtin, Builtin.len_, h1, run_underlying ht, goInt], rfl⟩
theorem okb_sliceTo {I : Asn} {t e : TypeId} {x y : Operand} {k : IntKind} {h : Int} {sz b m cap : Nat} (ho : o.op = .slice t x none (some y) none) (ht : P.underlying t = some (.slice e)) (hz : sizeB P e = some sz) (hx : VL E x (is (.slice (some ⟨b, 0, none⟩) m cap))) (hy : VL E y (is (.int k h))) (h0 : 0 ≤ h) (hl : h ≤ m) (hc : m ≤ cap) (h1m : 0 < cap) :
    OpOK P I o E (is (.slice (some ⟨b, 0, none⟩) h.toNat cap)) :=
  OpOK.same fun M w a he _ => by
    have h1 : a.eval x = _ := hx.ev he (by simp [ho, Op.operands])
    have h3 : a.eval y = _ := hy.ev he (by simp [ho, Op.operands])
    have hb : h ≤ (cap : Int) := by omega
    refine ⟨_, ?_, rfl⟩
    simp [execOp, ho, h1, h3, Instr.sliceAt, Instr.slice, run_underlying ht, Instr.sliceBounds, Instr.sliceBound, asIntOf, h0, hb, run_size hz]
    intro _; rfl
theorem okb_sliceFrom {I : Asn} {t e : TypeId} {x y : Operand} {k : IntKind} {l : Int} {sz b m cap : Nat} (ho : o.op = .slice t x (some y) none none) (ht : P.underlying t = some (.slice e)) (hz : sizeB P e = some sz) (hx : VL E x (is (.slice (some ⟨b, 0, none⟩) m cap))) (hy : VL E y (is (.int k l))) (h0 : 0 ≤ l) (hl : l < m) (hc : m ≤ cap) :
    OpOK P I o E (is (.slice (some ⟨b, l.toNat * sz, none⟩) (m - l.toNat) (cap - l.toNat))) :=
  OpOK.same fun M w a he _ => by
    have h1 : a.eval x = _ := hx.ev he (by simp [ho, Op.operands])
    have h3 : a.eval y = _ := hy.ev he (by simp [ho, Op.operands])
    have hb : l ≤ (m : Int) := by omega
    have hne : ¬ cap = l.toNat := by omega
    refine ⟨_, ?_, rfl⟩
    simp [execOp, ho, h1, h3, Instr.sliceAt, Instr.slice, run_underlying ht, Instr.sliceBounds, Instr.sliceBound, asIntOf, h0, hb, run_size hz, hne, addr_add]
theorem cells_at {β : Type} {f : β → List Pr} {l : List β} {qs : List Pr} {sz : Nat} (hf : ∀ x, (f x).length = sz) {i : Nat} {x : β} (h : l[i]? = some x) : ((((l.map f).flatten ++ qs).drop (i * sz)).take sz) = f x := by
  have hl : ∀ r ∈ l.map f, r.length = sz := fun r hr => by obtain ⟨y, _, rfl⟩ := List.mem_map.1 hr; exact hf y
  have hi : i < l.length := by rcases Nat.lt_or_ge i l.length with h' | h'; exact h'; rw [List.getElem?_eq_none h'] at h; cases h
  have hfl := flat_len hl
  rw [List.length_map] at hfl
  have hle : (i + 1) * sz ≤ l.length * sz := Nat.mul_le_mul_right sz hi
  rw [Nat.add_mul, Nat.one_mul] at hle
  apply List.ext_getElem?
  intro k
  rw [List.getElem?_take]
  split
  · rename_i hk
    rw [List.getElem?_drop, List.getElem?_append_left (by rw [hfl]; omega), flat_at hl (by rw [List.getElem?_map, h]; rfl) hk]
  · rename_i hk
    rw [List.getElem?_eq_none (by rw [hf]; omega)]
theorem cells_set {β : Type} {f : β → List Pr} {sz : Nat} (hf : ∀ x, (f x).length = sz) : ∀ {l : List β} {qs : List Pr} {i : Nat} {x : β}, i < l.length → ((l.map f).flatten ++ qs).take (i * sz) ++ f x ++ ((l.map f).flatten ++ qs).drop (i * sz + sz) = ((l.set i x).map f).flatten ++ qs
  | [], _, _, _, h => by simp at h
  | a :: l, qs, 0, x, _ => by
    simp only [List.map_cons, List.flatten_cons, Nat.zero_mul, List.take_zero, List.nil_append, Nat.zero_add, List.set_cons_zero]
    rw [← hf a, List.append_assoc, List.drop_left, List.append_assoc]
  | a :: l, qs, i + 1, x, h => by
    have ih := cells_set hf (l := l) (qs := qs) (i := i) (x := x) (by simpa using h)
    simp only [List.map_cons, List.flatten_cons, List.set_cons_succ]
    have e1 : (i + 1) * sz = (f a).length + i * sz := by rw [hf a, Nat.add_mul]; omega
    rw [List.append_assoc, List.append_assoc, e1, List.take_append, List.take_of_length_le (by omega), show (f a).length + i * sz - (f a).length = i * sz by omega, show (f a).length + i * sz + sz = (f a).length + (i * sz + sz) by omega, List.drop_append, List.drop_of_length_le (by omega), show (f a).length + (i * sz + sz) - (f a).length = i * sz + sz by omega, List.nil_append, List.append_assoc (f a) _ qs, ← ih]
    simp only [List.append_assoc]
theorem map_rows {β : Type} {f : β → List Pr} {l : List β} {sz : Nat} (hf : ∀ x, (f x).length = sz) : ∀ r ∈ l.map f, r.length = sz := fun r hr => by obtain ⟨y, _, rfl⟩ := List.mem_map.1 hr; exact hf y
theorem St.frzS {b cap sz : Nat} {e : TypeId} {rows : List (List Pr)} {qs : List Pr} (j d : Nat) {p : Pr} (hj : rs[j]? = some (cellsRes true b e (rows.flatten ++ qs))) (hd : E.lookup d = some p) (hp : Pr.le p (is (.slice (some ⟨b, 0, none⟩) rows.length cap)))
    (hl : ∀ r ∈ rows, r.length = sz) (hc : rows.length ≤ cap) (hm : cap ≤ maxLen) (hq : qs.length = (cap - rows.length) * sz)
    {a : Act} {w : World} (h : St n E (Hp M0 w0 S rs) a w) : St n ((d, andIs (.slice (some ⟨b, 0, none⟩) rows.length cap) (slice sz rows)) :: E) (Hp M0 w0 S (rs.set j (appRes e sz (.slice (some ⟨b, 0, none⟩) rows.length cap)))) a w := by
  obtain ⟨M, h1, h2, h3, h4⟩ := h
  obtain ⟨M', h5, h6, h7⟩ := HpH.frz h4 hj hl hc hm hq
  refine ⟨M', h1, h2, fun s q hs => ?_, h6⟩
  simp only [List.lookup] at hs
  split at hs
  · rename_i e1
    have : s = d := by simpa using e1
    subst this
    simp only [Option.some.injEq] at hs
    subst hs
    have h8 := hp _ _ _ (h3 _ _ hd)
    exact ⟨h8, by rw [show a.tmps.getD s undef = _ from h8]; exact h7⟩
  · exact q.st _ _ _ _ _ h5 (h3 s q hs)
theorem Tr.frzS {Q : Exit → Act → World → Prop} {c : Code} {b cap sz : Nat} {e : TypeId} (rows : List (List Pr)) {qs : List Pr} (j d : Nat) {p : Pr} (hj : rs[j]? = some (cellsRes true b e (rows.flatten ++ qs))) (hd : E.lookup d = some p) (hp : Pr.le p (is (.slice (some ⟨b, 0, none⟩) rows.length cap)))
    (hl : ∀ r ∈ rows, r.length = sz) (hc : rows.length ≤ cap) (hm : cap ≤ maxLen) (hq : qs.length = (cap - rows.length) * sz)
    (k : Tr P n ((d, andIs (.slice (some ⟨b, 0, none⟩) rows.length cap) (slice sz rows)) :: E) (Hp M0 w0 S (rs.set j (appRes e sz (.slice (some ⟨b, 0, none⟩) rows.length cap)))) c Q) : Tr P n E (Hp M0 w0 S rs) c Q :=
  Tr.conv (fun _ _ hs => hs.frzS j d hj hd hp hl hc hm hq) k
theorem Fin.frzS {Q : Exit → Act → World → Prop} {x : Exit} {b cap sz : Nat} {e : TypeId} (rows : List (List Pr)) {qs : List Pr} (j d : Nat) {p : Pr} (hj : rs[j]? = some (cellsRes true b e (rows.flatten ++ qs))) (hd : E.lookup d = some p) (hp : Pr.le p (is (.slice (some ⟨b, 0, none⟩) rows.length cap)))
    (hl : ∀ r ∈ rows, r.length = sz) (hc : rows.length ≤ cap) (hm : cap ≤ maxLen) (hq : qs.length = (cap - rows.length) * sz)
    (k : Fin n ((d, andIs (.slice (some ⟨b, 0, none⟩) rows.length cap) (slice sz rows)) :: E) (Hp M0 w0 S (rs.set j (appRes e sz (.slice (some ⟨b, 0, none⟩) rows.length cap)))) Q x) : Fin n E (Hp M0 w0 S rs) Q x :=
  Fin.conv (fun _ _ hs => hs.frzS j d hj hd hp hl hc hm hq) k
end
end Cp
namespace Cp
open Go Go.RowKit Go.Great

section
variable {P : Program} {n : Nat} {E : Env} {M0 : Av} {w0 : World} {S : Nat → Prop} {rs : List Res} {o : Oper} {g : Func} {M1 : Av} {w1 : World}
theorem cell1_at {β : Type} {f : β → List Pr} {l : List β} {qs : List Pr} (hf : ∀ x, (f x).length = 1) {i : Int} {x : β} {p : Pr} (h : l[i.toNat]? = some x) (hp : f x = [p]) : ((l.map f).flatten ++ qs)[0 + i.toNat * 1]? = some p := by
  have hl : ∀ r ∈ l.map f, r.length = 1 := map_rows hf
  have hi : i.toNat < l.length := by rcases Nat.lt_or_ge i.toNat l.length with h' | h'; exact h'; rw [List.getElem?_eq_none h'] at h; cases h
  have hfl := flat_len hl
  rw [List.length_map] at hfl
  rw [Nat.zero_add, List.getElem?_append_left (by rw [hfl]; omega), show i.toNat * 1 = i.toNat * 1 + 0 by omega, flat_at hl (by rw [List.getElem?_map, h]; rfl) (by omega), hp]; rfl
theorem Fin.opn {Q : Exit → Act → World → Prop} {x : Exit} (s j : Nat) {v : Value} {f : Value → Res} (g : Nat → Res) (hs : E.lookup s = some (andIs v (Cp.ex fun b => ptr b 0))) (hi : rs[j]? = some (f v)) (hf : ∀ b, f (.pointer (some ⟨b, 0, none⟩)) = g b)
    (k : ∀ b, Fin n ((s, ptr b 0) :: E) (Hp M0 w0 S (rs.set j (g b))) Q x) : Fin n E (Hp M0 w0 S rs) Q x := by
  intro a w hst
  obtain ⟨M, h1, h2, he, h4⟩ := hst
  obtain ⟨h5, b, h6⟩ := he s _ hs
  have hv : v = .pointer (some ⟨b, 0, none⟩) := by rw [← h5]; exact h6
  have hj : rs.set j (g b) = rs := by
    have hjl : j < rs.length := by rcases Nat.lt_or_ge j rs.length with h | h; exact h; rw [List.getElem?_eq_none h] at hi; cases hi
    rw [← hf b, ← hv]
    rw [List.getElem?_eq_getElem hjl] at hi
    simp at hi
    rw [← hi, List.set_getElem_self]
  refine k b a w ⟨M, h1, h2, ?_, by rw [hj]; exact h4⟩
  intro t q hq
  simp only [List.lookup] at hq
  by_cases ht : t = s
  · subst ht; simp at hq; subst hq; exact h6
  · rw [show (t == s) = false by simpa using ht] at hq; exact he t q hq
end
end Cp
namespace Cp
open Go Go.RowKit Go.Great

section
variable {P : Program} {n : Nat} {E : Env} {M0 : Av} {w0 : World} {S : Nat → Prop} {rs : List Res} {o : Oper}

/-- A slice of ours: nil, or its elements and what lies behind them. -/
def ownRes (e : TypeId) (sz : Nat) (rows : List (List Pr)) (v : Value) : Res where
  blk := match v with | .slice (some a) _ _ => some a.block | _ => none
  new := true
  h M w := (rows = [] ∧ v = .slice none 0 0) ∨ (mutRes e sz rows v).h M w
  st M w M' w' he hk h := h.imp id fun h => (mutRes e sz rows v).st M w M' w' he hk h
theorem Tr.addown {Q : Exit → Act → World → Prop} {c : Code} (e : TypeId) (sz : Nat) (k : Tr P n E (Hp M0 w0 S (ownRes e sz [] (.slice none 0 0) :: rs)) c Q) : Tr P n E (Hp M0 w0 S rs) c Q :=
  Tr.conv (fun _ _ ⟨M, h1, h2, h3, h4⟩ => ⟨M, h1, h2, h3, HpH.add0 h4 (r := ownRes e sz [] (.slice none 0 0)) rfl (Or.inl ⟨rfl, rfl⟩)⟩) k

theorem app_mut {M : Av} {w : World} {t ty e : TypeId} {sz bytes : Nat} {zs : List Value} {rows rows' : List (List Pr)} {v u : Value} {j : Nat} (ht : P.underlying t = some (.slice e)) (hz : sizeB P e = some sz) (hby : bytesB P e = some bytes) (hze : zeroB P e = some zs) (hzl : zs.length = sz) (hone : zs.all (·.oneCell') = true) (hsz : 0 < sz)
    (h : HpH M0 w0 S rs M w) (hj : rs[j]? = some (ownRes e sz rows v)) (hl : ∀ r ∈ rows, r.length = sz) (hu : (slice sz rows').h M w u) (hpos : 0 < rows'.length) (hmax : rows.length + rows'.length ≤ maxLen) (hfit : (rows.length + rows'.length) * bytes ≤ 140737488355328) :
    ∃ v' w' M', (Builtin.append_ #[t, t] ty #[v, u]).run P w = .ok v' w' ∧ (lens (rows.length + rows'.length)).h M' w' v' ∧ Ext M w M' w' ∧ HpH M0 w0 S (rs.set j (ownRes e sz (rows ++ rows') v')) M' w' := by
  have hjl : j < rs.length := by rcases Nat.lt_or_ge j rs.length with h | h; exact h; rw [List.getElem?_eq_none h] at hj; cases hj
  rcases (h.hold _ (List.mem_of_getElem? hj)).1 with ⟨rfl, rfl⟩ | hmut
  · have h1 := h.swap1 (r' := noRes) hj rfl rfl trivial
    have hj1 : (rs.set j noRes)[j]? = some noRes := List.getElem?_set_self hjl
    obtain ⟨v', w', M', hrun, h2, h3, h4⟩ := app_new (ty := ty) ht hz hby hze hzl hone hsz h1 hj1 hu hpos (by simpa using hmax) (by simpa using hfit)
    rw [List.set_set] at h4
    have h5 := h4.swap1 (r' := ownRes e sz ([] ++ rows') v') (List.getElem?_set_self hjl) rfl rfl (.inr (h4.hold _ (List.mem_of_getElem? (List.getElem?_set_self hjl))).1)
    rw [List.set_set] at h5
    exact ⟨v', w', M', hrun, by simpa using h2, h3, h5⟩
  · obtain ⟨b, cap, spare, rfl, hnc, hcm, hsp, hcr⟩ := hmut
    have hC := h.swap1 (r' := cellsRes true b e (rows.flatten ++ spare.map is)) hj rfl rfl hcr
    have hjC : (rs.set j (cellsRes true b e (rows.flatten ++ spare.map is)))[j]? = some (cellsRes true b e (rows.flatten ++ spare.map is)) := List.getElem?_set_self hjl
    obtain ⟨⟨hMb, cs, hheap, hcs, hone'⟩, hbb⟩ := hC.hold _ (List.mem_of_getElem? hjC)
    have hfl := flat_len hl
    have hcl := hcs.length
    rw [List.length_append, hfl, List.length_map, hsp, ← Nat.add_mul, show rows.length + (cap - rows.length) = cap by omega] at hcl
    unfold sizeB at hz
    unfold bytesB at hby
    unfold zeroB at hze
    cases hi : P.info? e with
    | none => rw [hi] at hz; cases hz
    | some i =>
      rw [hi] at hz hby hze
      simp only [Option.map_some, Option.some.injEq, Option.map_eq_some_iff] at hz hby hze
      obtain ⟨z, hzz, hze⟩ := hze
      have hzc : z.cells.size = sz := by rw [← hzl, ← hze]; simp
      obtain ⟨A', c', rfl, hmc, hcm', hA', hrows'⟩ := hu
      have hu0 : (slice sz rows').h M w (.slice A' rows'.length c') := ⟨A', c', rfl, hmc, hcm', hA', hrows'⟩
      obtain ⟨ad', rfl⟩ : ∃ ad', A' = some ad' := by
        obtain ⟨_, b, hb, _⟩ := hrows' 0 _ (List.getElem?_eq_getElem hpos)
        exact ⟨b, hb⟩
      obtain ⟨news, hflat, hcell⟩ := slice_flat hsz hu0
      have hnl := hflat.1
      have hnews := hflat.hl hsz
      have hT : HL M w rows.flatten (cs.take (rows.length * sz)) := by
        have := hcs.take (rows.length * sz)
        rwa [← hfl, List.take_left, hfl] at this
      have hne : (.slice (some ⟨b, 0, none⟩) (rows ++ rows').length cap : Value) = .slice (some ⟨b, 0, none⟩) (rows.length + rows'.length) cap := by rw [List.length_append]
      by_cases hroom : rows.length + rows'.length ≤ cap
      · have hle : (rows.length + rows'.length) * sz ≤ cap * sz := Nat.mul_le_mul_right sz hroom
        rw [Nat.add_mul] at hle
        have hrun := run_append_room (P := P) (w := w) t ty e i ht hi b rows.length cap cs.toArray hheap ad' rows'.length c' news (by rw [hz]; exact hnl) (fun k u hk => (hcell k u hk).1) hflat.2.1 hroom (by rw [hz, hnl]; simp; omega)
        rw [hz, hnl] at hrun
        have hD : HL M w ((spare.drop (rows'.length * sz)).map is) (cs.drop (rows.length * sz + rows'.length * sz)) := by
          have := hcs.drop (rows.length * sz + rows'.length * sz)
          have e1 : (rows.flatten ++ spare.map is).drop (rows.length * sz + rows'.length * sz) = (spare.drop (rows'.length * sz)).map is := by rw [← hfl, ← List.drop_drop, List.drop_left, List.map_drop]
          rwa [e1] at this
        obtain ⟨hW, hX⟩ := HpH.write (qs := rows.flatten ++ rows'.flatten ++ (spare.drop (rows'.length * sz)).map is) (cs := cs.take (rows.length * sz) ++ news ++ cs.drop (rows.length * sz + rows'.length * sz)) hC hjC ((hT.app hnews).app hD) (fun c hc => by
          simp only [List.mem_append] at hc
          rcases hc with (hc | hc) | hc
          · exact hone' c (List.mem_of_mem_take hc)
          · exact hflat.2.1 c hc
          · exact hone' c (List.mem_of_mem_drop hc))
        rw [List.set_set] at hW
        refine ⟨_, _, M, hrun, ⟨_, _, rfl⟩, hX, ?_⟩
        have hW2 := hW.swap1 (r' := ownRes e sz (rows ++ rows') (.slice (some ⟨b, 0, none⟩) (rows.length + rows'.length) cap)) (List.getElem?_set_self hjl) rfl rfl (.inr ⟨b, cap, spare.drop (rows'.length * sz), hne.symm, by rw [List.length_append]; exact hroom, hcm, by
          rw [List.length_drop, hsp, List.length_append, ← Nat.sub_mul]; congr 1; omega, by
          rw [List.flatten_append]; exact (hW.hold _ (List.mem_of_getElem? (List.getElem?_set_self hjl))).1⟩)
        rw [List.set_set] at hW2
        exact hW2
      · have hg : cap < rows.length + rows'.length := by omega
        have holds : ∀ k u, (cs.take (rows.length * sz))[k]? = some u → w.cell? ((⟨b, 0, none⟩ : Addr).add k) = some u := by
          intro k u hk
          have hk2 : cs[k]? = some u := by
            rw [List.getElem?_take] at hk
            split at hk
            · exact hk
            · cases hk
          rw [addr_add]
          simp [World.cell?, hheap, hk2]
        have hto : (cs.take (rows.length * sz)).length = rows.length * sz := by rw [List.length_take, hcl]; exact Nat.min_eq_left (Nat.mul_le_mul_right sz hnc)
        have hrun := run_append_grow (P := P) (w := w) t ty e i z ht hi hzz ⟨b, 0, none⟩ rows.length cap (cs.take (rows.length * sz)) (by rw [hz]; exact hto) holds ad' rows'.length c' news (by rw [hz]; exact hnl) (fun k u hk => (hcell k u hk).1) hg (by unfold maxLen at hmax; omega) (by rw [hby]; exact growslice_fits hg hfit)
        generalize hcap : grownCap w (rows.length + rows'.length) cap e = cap' at hrun
        have hge : rows.length + rows'.length ≤ cap' := by rw [← hcap]; exact grownCap_ge _ _ _ _
        have hle : cap' ≤ maxLen := by rw [← hcap]; exact grownCap_le_maxLen _ _ _ _ hmax
        generalize hzc' : Builtin.zeroCells z.cells (cap' - (rows.length + rows'.length)) = zc at hrun
        have hzs : zc.size = (cap' - (rows.length + rows'.length)) * sz := by rw [← hzc', size_zeroCells, hzc]
        have hzo : ∀ c ∈ zc.toList, c.oneCell' = true := by rw [← hzc']; exact zeroCells_one hze hone
        generalize holdsN : ((cs.take (rows.length * sz)).toArray ++ news.toArray ++ zc) = arr at hrun
        have harr : arr.toList = cs.take (rows.length * sz) ++ news ++ zc.toList := by rw [← holdsN]; simp
        have hb : Below w.heap.size w (w.drew.alloc (.cells arr e)) := ((Below.refl _ _).drew).alloc (Nat.le_refl _) _
        have h2 := Ext.below (M := M) hb
        have hext : Ext M w (fun b o => M b o ∨ b = w.heap.size) (w.drew.alloc (.cells arr e)) := by
          refine ⟨h2.size, fun a v hc hm => ⟨fun hx => ?_, (h2.keep a v hc hm).2⟩, fun b o ho hp hm => ⟨fun hx => ?_, (h2.obj b o ho hp hm).2⟩⟩
          · rcases hx with hx | hx
            · exact hm hx
            · have := cell_lt hc; omega
          · rcases hx with hx | hx
            · exact hm hx
            · subst hx; simp at ho
        have hs1 : (w.drew.alloc (.cells arr e)).heap.size = w.heap.size + 1 := by simp
        refine ⟨_, _, fun b o => M b o ∨ b = w.heap.size, hrun, ⟨_, _, rfl⟩, hext, ?_⟩
        refine h.replace hj hext hb.os hb.tape hb.output (fun k hk _ => hb.block k hk) rfl (fun b o hm _ => .inl hm) (fun b o hx => ?_) ?_ rfl (fun b hbk => ?_)
        · rcases hx with hx | hx
          · have := h.bd _ _ hx; omega
          · omega
        · refine .inr ⟨w.heap.size, cap', zc.toList, by rw [List.length_append], by rw [List.length_append]; exact hge, hle, by rw [List.length_append]; simpa using hzs, fun o => .inr rfl, arr.toList, ?_, ?_, ?_⟩
          · have hh : (w.drew.alloc (.cells arr e)).heap[w.heap.size]? = some (.cells arr e (0, 0)) := heap_alloc_new w.drew _
            rw [hh]
          · rw [harr, List.flatten_append]; exact ((hT.st hext).app ((hflat.st hext).hl hsz)).app (hl_is _ _ _)
          · intro c hc
            rw [harr] at hc
            simp only [List.mem_append] at hc
            rcases hc with (hc | hc) | hc
            · exact hone' c (List.mem_of_mem_take hc)
            · exact hflat.2.1 c hc
            · exact hzo c hc
        · have hbk' : some w.heap.size = some b := hbk
          injection hbk' with e1
          subst e1
          exact ⟨by rw [hs1]; omega, .inr (Nat.le_refl _)⟩
theorem ef_appmut {t e : TypeId} {x y : Operand} {sz bytes d : Nat} {zs : List Value} {rows rows' : List (List Pr)} {v : Value} {p : Pr} {j : Nat} (hg : o.guard = none) (hd : o.dst = some d) (hn : d < n) (ho : o.op = .call { callee := .builtin .append, args := #[x, y], argTypes := #[t, t] })
    (ht : P.underlying t = some (.slice e)) (hz : sizeB P e = some sz) (hby : bytesB P e = some bytes) (hze : zeroB P e = some zs) (hzl : zs.length = sz) (hone : zs.all (·.oneCell') = true) (hsz : 0 < sz)
    (hx : VL E x (andIs v p)) (hy : VL E y (slice sz rows')) (hl : ∀ r ∈ rows, r.length = sz) (hpos : 0 < rows'.length) (hmax : rows.length + rows'.length ≤ maxLen) (hfit : (rows.length + rows'.length) * bytes ≤ 140737488355328) : OpEf P M0 w0 S n j (SR.c (ownRes e sz rows v)) ⟨d, ownRes e sz (rows ++ rows')⟩ o E (lens (rows.length + rows'.length)) := by
  refine ⟨hg, fun M w a rs hszn he hI hj => ?_⟩
  have h1 : a.eval x = v := (hx.ev he (by simp [ho, Op.operands, Call.operands])).1
  have h2 := hy.ev he (by simp [ho, Op.operands, Call.operands])
  obtain ⟨v', w', M', hrun, h3, h4, h5⟩ := app_mut (ty := o.type) ht hz hby hze hzl hone hsz hI hj hl h2 hpos hmax hfit
  have hrun2 : (execOp a.eval o).run P w = .ok (.value v') w' := by simp [execOp, ho, resolve, invoke, builtin, h1, hrun]
  rw [hrun2]
  refine ⟨M', h3, h4, ?_⟩
  have : (SR.at_ (a.put o.dst v') ⟨d, ownRes e sz (rows ++ rows')⟩) = ownRes e sz (rows ++ rows') v' := by unfold SR.at_ Slot.val; dsimp only; rw [hd, put_same (by rw [hszn]; exact hn)]
  rw [this]; exact h5

theorem HpH.frzO {M : Av} {w : World} {sz : Nat} {e : TypeId} {rows : List (List Pr)} {v : Value} {j : Nat} (h : HpH M0 w0 S rs M w) (hj : rs[j]? = some (ownRes e sz rows v)) (hl : ∀ r ∈ rows, r.length = sz) :
    ∃ M', Ext M w M' w ∧ HpH M0 w0 S (rs.set j (appRes e sz v)) M' w ∧ (slice sz rows).h M' w v := by
  have hjl : j < rs.length := by rcases Nat.lt_or_ge j rs.length with h | h; exact h; rw [List.getElem?_eq_none h] at hj; cases hj
  rcases (h.hold _ (List.mem_of_getElem? hj)).1 with ⟨rfl, rfl⟩ | hmut
  · exact ⟨M, Ext.refl _ _, h.swap1 hj rfl rfl (by intro a n c hv; cases hv), nil_slice sz M w _ rfl⟩
  · obtain ⟨b, cap, spare, rfl, hnc, hcm, hsp, hcr⟩ := hmut
    have hC := h.swap1 (r' := cellsRes true b e (rows.flatten ++ spare.map is)) hj rfl rfl hcr
    obtain ⟨M', h1, h2, h3⟩ := HpH.frz hC (List.getElem?_set_self hjl) hl hnc hcm (by rw [List.length_map]; exact hsp)
    rw [List.set_set] at h2
    exact ⟨M', h1, h2, h3⟩

end

section
variable {P : Program} {n : Nat} {E : Env} {M0 : Av} {w0 : World} {S : Nat → Prop} {rs : List Res} {o : Oper} {ops : Array Oper} {r : List Oper}
def FunR (P : Program) (f : FuncId) (args : List Pr) (res : Pr) (r : Res) (r' : Res) (r2 : Res) : Prop := Entry P f ∧ ∀ M0 w0 S rs M w vs, HpH M0 w0 S (r :: r2 :: rs) M w → HL M w args vs →
  Calls P f vs.toArray w fun e w' => ∃ v M', e = .returned v ∧ res.h M' w' v ∧ Ext M w M' w' ∧ HpH M0 w0 S (r' :: r2 :: rs) M' w'
theorem FunR.of {f : FuncId} {g : Func} {c : Code} {ps : List Pr} {res : Pr} {R R' R2 : Res} (hf : P.funcs[f]? = some g) (hb : g.body = some c) (hname : (g.name == "runtime.NumGoroutine") = false) (hlen : ps.length ≤ g.ntmps)
    (h : ∀ M0 w0 S rs M1 w1, Tr P g.ntmps (penv 0 ps) (Hp M0 w0 S (R :: extRes M1 w1 :: R2 :: rs)) c (bodyPost P g (BackM M0 w0 S (R2 :: rs) M1 w1 res (fun _ => R')))) : FunR P f ps res R R' R2 := by
  refine ⟨⟨g, hf, hname, by rw [hb]; rfl⟩, fun M0 w0 S rs M w vs hI hv => ?_⟩
  refine calls_of_wp hf hb (h M0 w0 S rs M w _ _ ⟨M, ?_, rfl, enter_env hv, ?_⟩)
  · have := hv.length
    simp [this]; omega
  · exact HpH.perm (List.Perm.swap _ _ _) (HpH.add0 hI (r := extRes M w) rfl (Ext.refl _ _))
end
end Cp
namespace Cp
open Go Go.RowKit Go.Great

section
variable {P : Program} {I : Asn} {o : Oper} {E : Env}
end
end Cp
namespace Cp
open Go Go.RowKit Go.Great

section
variable {P : Program} {n : Nat} {E : Env} {M0 : Av} {w0 : World} {S : Nat → Prop} {rs : List Res} {o : Oper} {β : Type} {b : Nat} {e : TypeId} {f : β → List Pr} {qs : List Pr} {Φ : List β → Prop}
instance (priority := 300) nrm_nott (b : Bool) (p : Prop) [h : Nrm b false p] : Nrm (!b) true p := ⟨fun e => h.nrm (by simpa using e)⟩
instance (priority := 300) nrm_notf (b : Bool) (p : Prop) [h : Nrm b true p] : Nrm (!b) false p := ⟨fun e => h.nrm (by simpa using e)⟩
end
end Cp
namespace Cp
open Go.Sort

section
variable {β : Type} [Inhabited β] {c : β × β → Int} {st : List β} {a b i j : Int}
def ltc (c : β × β → Int) (x y : β) : Bool := decide (c (x, y) < 0)
theorem gx (h : i.toNat < st.length) : st.toArray[i.toNat]! = st[i.toNat] := by simp [h]
theorem sw (hi : i.toNat < st.length) (hj : j.toNat < st.length) : ((st.set i.toNat (st[j.toNat]'hj)).set j.toNat (st[i.toNat]'hi)).toArray = swp st.toArray i.toNat j.toNat := by
  unfold swp
  rw [gx hi, gx hj]
  simp [Array.setIfInBounds_def, hi, hj]
omit [Inhabited β] in
theorem lt_no {x y : β} (h : ¬ c (x, y) < 0) : ltc c x y = false := decide_eq_false h

variable {hi F r : Int}
variable {lt : β → β → Bool} {a0 b0 m n : Nat} {l s s' : Array β}
structure PS (lt : β → β → Bool) (a0 b0 a b : Nat) (l s : Array β) : Prop where
  ha : a0 ≤ a
  hab : a ≤ b
  hb : b ≤ b0
  hp : PermIn a0 b0 l s
  below : Below lt a b s
  out : ∀ i j, a0 ≤ i → i < j → j < b0 → (i < a ∨ b ≤ j) → lt s[j]! s[i]! = false
theorem PS.perm (h : PS lt a0 b0 m n l s) (hs : b0 ≤ l.size) (hq : PermIn m n s s') : PS lt a0 b0 m n l s' := by
  have hsz : s.size = l.size := h.hp.1
  have hns : n ≤ s.size := by have := h.hb; omega
  refine ⟨h.ha, h.hab, h.hb, permIn_trans _ _ _ _ _ h.hp (permIn_mono _ _ _ _ _ _ h.ha h.hb (by omega) hq), Below.permA permIn_all hns h.below hq, fun i j h1 h2 h3 h4 => ?_⟩
  have hm := h.hab
  by_cases hi : m ≤ i ∧ i < n
  · have hj : n ≤ j := by omega
    rw [hq.2.1 j (.inr hj)]
    exact permIn_all s s' m n (fun x => lt s[j]! x = false) hns hq (fun k hk1 hk2 => h.out k j (by have := h.ha; omega) (by omega) h3 (.inr hj)) i hi.1 hi.2
  · rw [hq.2.1 i (by omega)]
    by_cases hj : m ≤ j ∧ j < n
    · exact permIn_all s s' m n (fun x => lt x s[i]! = false) hns hq (fun k hk1 hk2 => h.out i k h1 (by omega) (by have := h.hb; omega) (.inl (by omega))) j hj.1 hj.2
    · rw [hq.2.1 j (by omega)]; exact h.out i j h1 h2 h3 h4
theorem PS.done (h : PS lt a0 b0 m n l s) (hs : SortedIn lt m n s) : PermIn a0 b0 l s ∧ SortedIn lt a0 b0 s := by
  refine ⟨h.hp, fun i j h1 h2 h3 => ?_⟩
  by_cases hh : i < m ∨ n ≤ j
  · exact h.out i j h1 h2 h3 hh
  · exact hs i j (by omega) h2 (by omega)
theorem PS.eq (hw : SWO lt) (h : PS lt a0 b0 m n l s) (hs : b0 ≤ l.size) {pv : β} {k : Nat} (hm : 0 < m) (hpv : lt s[m - 1]! pv = false) (hk : m < k) (hkn : k ≤ n) (hq : PermIn m n s s') (h1 : ∀ i, m ≤ i → i < k → lt pv s'[i]! = false) (h2 : ∀ i, k ≤ i → i < n → lt pv s'[i]! = true) :
    PS lt a0 b0 k n l s' := by
  have h' := h.perm hs hq
  have hle : ∀ j, m ≤ j → j < n → lt s'[j]! pv = false := by
    intro j hj1 hj2
    by_cases hjk : k ≤ j
    · exact hw.asym (h2 j hjk hj2)
    · have hb := h'.below
      rcases hb with hb | hb
      · omega
      · have hb := hb j hj1 hj2
        rw [hq.2.1 (m - 1) (.inl (by omega))] at hb
        exact hw.ntrans _ _ _ hb hpv
  have key : ∀ i j, m ≤ i → i < k → m ≤ j → j < n → lt s'[j]! s'[i]! = false := fun i j ha hb hc hd => hw.ntrans _ _ _ (hle j hc hd) (h1 i ha hb)
  refine ⟨by have := h.ha; omega, hkn, h.hb, h'.hp, .inr fun i hi1 hi2 => key (k - 1) i (by omega) (by omega) (by omega) hi2, fun i j g1 g2 g3 g4 => ?_⟩
  by_cases hh : i < m ∨ n ≤ j
  · exact h'.out i j g1 g2 g3 hh
  · exact key i j (by omega) (by omega) (by omega) (by omega)
/-- What a partition yields. -/
structure Parted (lt : β → β → Bool) (m n k : Nat) (s : Array β) : Prop where
  h1 : m ≤ k
  h2 : k < n
  lo : ∀ i, m ≤ i → i < k → lt s[i]! s[k]! = true
  up : ∀ i, k < i → i < n → lt s[i]! s[k]! = false
theorem PS.left (hw : SWO lt) {k : Nat} (h : PS lt a0 b0 m n l s) (hs : b0 ≤ l.size) (hp : Parted lt m n k s) (hq : PermIn m k s s') (hso : SortedIn lt m k s') : PS lt a0 b0 (k + 1) n l s' := by
  obtain ⟨h1, h2, lo, up⟩ := hp
  have hsz : s.size = l.size := h.hp.1
  have hks : k ≤ s.size := by have := h.hb; omega
  have hq2 : PermIn m n s s' := permIn_mono _ _ _ _ _ _ (Nat.le_refl _) (by omega) (by have := h.hb; omega) hq
  have h' := h.perm hs hq2
  have ek : s'[k]! = s[k]! := hq.2.1 k (.inr (Nat.le_refl _))
  have lo' : ∀ i, m ≤ i → i < k → lt s'[i]! s[k]! = true := fun i g1 g2 => permIn_all s s' m k (fun x => lt x s[k]! = true) hks hq lo i g1 g2
  have up' : ∀ i, k < i → i < n → lt s'[i]! s[k]! = false := fun i g1 g2 => by rw [hq.2.1 i (.inr (by omega))]; exact up i g1 g2
  refine ⟨by have := h.ha; omega, by omega, h.hb, h'.hp, .inr fun i g1 g2 => ?_, fun i j g1 g2 g3 g4 => ?_⟩
  · rw [show k + 1 - 1 = k by omega, ek]; exact up' i (by omega) g2
  · by_cases hh : i < m ∨ n ≤ j
    · exact h'.out i j g1 g2 g3 hh
    · rcases Nat.lt_trichotomy i k with hik | hik | hik
      · rcases Nat.lt_trichotomy j k with hjk | hjk | hjk
        · exact hso i j (by omega) g2 hjk
        · subst hjk; rw [ek]; exact hw.asym (lo' i (by omega) hik)
        · exact hw.ntrans _ _ _ (up' j hjk (by omega)) (hw.asym (lo' i (by omega) hik))
      · subst hik; rw [ek]; exact up' j g2 (by omega)
      · omega
theorem PS.right (hw : SWO lt) {k : Nat} (h : PS lt a0 b0 m n l s) (hs : b0 ≤ l.size) (hp : Parted lt m n k s) (hq : PermIn (k + 1) n s s') (hso : SortedIn lt (k + 1) n s') : PS lt a0 b0 m k l s' := by
  obtain ⟨h1, h2, lo, up⟩ := hp
  have hsz : s.size = l.size := h.hp.1
  have hns : n ≤ s.size := by have := h.hb; omega
  have hq2 : PermIn m n s s' := permIn_mono _ _ _ _ _ _ (by omega) (Nat.le_refl _) hns hq
  have h' := h.perm hs hq2
  have ek : s'[k]! = s[k]! := hq.2.1 k (.inl (by omega))
  have lo' : ∀ i, m ≤ i → i < k → lt s'[i]! s[k]! = true := fun i g1 g2 => by rw [hq.2.1 i (.inl (by omega))]; exact lo i g1 g2
  have up' : ∀ i, k < i → i < n → lt s'[i]! s[k]! = false := fun i g1 g2 => permIn_all s s' (k + 1) n (fun x => lt x s[k]! = false) hns hq (fun i q1 q2 => up i (by omega) q2) i (by omega) g2
  refine ⟨h.ha, h1, by have := h.hb; omega, h'.hp, ?_, fun i j g1 g2 g3 g4 => ?_⟩
  · rcases h'.below with hb | hb
    · exact .inl hb
    · exact .inr fun i q1 q2 => hb i q1 (by omega)
  · by_cases hh : i < m ∨ n ≤ j
    · exact h'.out i j g1 g2 g3 hh
    · rcases Nat.lt_trichotomy i k with hik | hik | hik
      · rcases Nat.lt_trichotomy j k with hjk | hjk | hjk
        · omega
        · subst hjk; rw [ek]; exact hw.asym (lo' i (by omega) hik)
        · exact hw.ntrans _ _ _ (up' j hjk (by omega)) (hw.asym (lo' i (by omega) hik))
      · subst hik; rw [ek]; exact up' j g2 (by omega)
      · exact hso i j (by omega) g2 (by omega)
end

section
variable {β : Type} [Inhabited β] {c : β × β → Int} {st : List β}
def Adj (c : β × β → Int) (a b : Int) (l : List β) : Prop := ∀ k, a.toNat < k → k < b.toNat → ltc c l.toArray[k]! l.toArray[k - 1]! = false
theorem Adj.start (a : Int) (l : List β) (h0 : 0 ≤ a) : Adj c a (a + 1) l := fun k h1 h2 => by omega
theorem Adj.go {a i k : Int} (h : Adj c a i st) (h0 : 0 ≤ a) (ha : a < i) (hk : k = i - 1) (hi : i.toNat < st.length) (hk' : k.toNat < st.length) (hc : 0 ≤ c (st[i.toNat]'hi, st[k.toNat]'hk')) : Adj c a (i + 1) st := fun m h1 h2 => by
  rcases Nat.lt_or_ge m i.toNat with hm | hm
  · exact h m h1 hm
  · have e : m = i.toNat := by omega
    subst e
    rw [show i.toNat - 1 = k.toNat by omega, gx hi, gx hk']; exact lt_no (by omega)
end

section
variable {β : Type} [Inhabited β]
/-- Elements from a on, up to b, were exchanged among themselves. -/
def PermL (a b : Int) (l st : List β) : Prop := PermIn a.toNat b.toNat l.toArray st.toArray
/-- And are ascending there. -/
def SortL (c : β × β → Int) (a b : Int) (l st : List β) : Prop := PermIn a.toNat b.toNat l.toArray st.toArray ∧ SortedIn (ltc c) a.toNat b.toNat st.toArray
theorem PermL.len {a b : Int} {l st : List β} (h : PermL a b l st) : st.length = l.length := by have := h.1; simpa using this
theorem SortL.len {c : β × β → Int} {a b : Int} {l st : List β} (h : SortL c a b l st) : st.length = l.length := by have := h.1.1; simpa using this
def SiftL (c : β × β → Int) (hi first lo : Int) (l st : List β) : Prop := st.length = l.length ∧ st.toArray = siftDown (ltc c) hi.toNat first.toNat lo.toNat l.toArray
theorem SiftL.len {c : β × β → Int} {hi first lo : Int} {l st : List β} (h : SiftL c hi first lo l st) : st.length = l.length := h.1
abbrev PE (c : β × β → Int) (a b pv : Int) (l : List β) : Nat × Array β := partitionEqual (ltc c) l.toArray a.toNat b.toNat pv.toNat
abbrev PA (c : β × β → Int) (a b pv : Int) (l : List β) : Nat × Bool × Array β := partition (ltc c) l.toArray a.toNat b.toNat pv.toNat
def PartE (c : β × β → Int) (a b pv : Int) (l st : List β) : Prop := st.length = l.length ∧ st.toArray = (PE c a b pv l).2
def PartL (c : β × β → Int) (a b pv : Int) (l st : List β) : Prop := st.length = l.length ∧ st.toArray = (PA c a b pv l).2.2
theorem PartE.len {c : β × β → Int} {a b pv : Int} {l st : List β} (h : PartE c a b pv l st) : st.length = l.length := h.1
theorem PartL.len {c : β × β → Int} {a b pv : Int} {l st : List β} (h : PartL c a b pv l st) : st.length = l.length := h.1
theorem PermL.refl (a b : Int) (l : List β) : PermL a b l l := permIn_refl _ _ _
theorem PermL.swap {a b i j : Int} {l st : List β} (h : PermL a b l st) (hi : i.toNat < st.length) (hj : j.toNat < st.length) (h1 : a.toNat ≤ i.toNat) (h2 : i.toNat < b.toNat) (h3 : a.toNat ≤ j.toNat) (h4 : j.toNat < b.toNat) (hb : b.toNat ≤ l.length) :
    PermL a b l ((st.set i.toNat (st[j.toNat]'hj)).set j.toNat (st[i.toNat]'hi)) := by
  unfold PermL
  rw [sw hi hj]
  exact permIn_trans _ _ _ _ _ h (swp_permIn _ _ _ _ _ h1 h2 h3 h4 (by have := h.len; simp; omega))
theorem PermL.trans {a b : Int} {l m st : List β} (h : PermL a b l m) (k : PermL a b m st) : PermL a b l st := permIn_trans _ _ _ _ _ h k
end
section
open Go
variable {P : Program} {n : Nat} {E : Env} {M0 : Av} {w0 : World} {S : Nat → Prop} {rs : List Res} {new : Bool} {b : Nat} {T : TypeId} {ps : List Pr}
end
end Cp
namespace Cp
open Go Go.RowKit Go.Great
section
variable {P : Program} {n : Nat} {E : Env} {I : Asn} {Q : Exit → Act → World → Prop}
theorem Tr.cutD1V1 {α0 : Type} (K : Env) (hK : SubL E K) (F : α0 → Value → Env) (Ii : α0 → Value → Asn) (C : α0 → Prop) {x y : Code} (h : Tr P n E I x (Exit.then (fun a w => ∃ x0 v0, C x0 ∧ St n (F x0 v0 ++ K) (Ii x0 v0) a w) Q))
    (k : ∀ x0 v0, C x0 → Tr P n (F x0 v0 ++ K) (Ii x0 v0) y Q) : Tr P n E I (.seq x y) Q :=
  Tr.cut (fun y : α0 × Value => F y.1 y.2 ++ K) (fun y => Ii y.1 y.2) (fun y => C y.1) (Tr.post h fun e a w h => by cases e <;> first | exact h | (obtain ⟨x0, v0, h1, h2⟩ := h; exact ⟨(x0, v0), h1, h2⟩)) fun y hy => k y.1 y.2 hy
end
end Cp
namespace Go.Proofs.Ytgdlhajfajddiaa
open Go Go.RowKit Cp

/-- A comparison: antisymmetric, transitive, and what is equal compares alike. -/
structure Cmp {α : Type} (c : α → α → Int) : Prop where
  swap : ∀ x y, c y x = - c x y
  tr : ∀ x y z, c x y < 0 → c y z < 0 → c x z < 0
  eq : ∀ x y z, c x y = 0 → c x z = c y z
theorem Cmp.eqr {α : Type} {c : α → α → Int} (h : Cmp c) (x y z : α) (e : c y z = 0) : c x y = c x z := by
  have h1 := h.eq y z x e
  have h2 := h.swap x y
  have h3 := h.swap x z
  omega
theorem Cmp.cons {α : Type} {c d : α → α → Int} (h : Cmp c) (k : Cmp d) : Cmp (fun x y => if c x y = 0 then d x y else c x y) where
  swap x y := by
    have h1 := h.swap x y
    have h2 := k.swap x y
    show (if c y x = 0 then d y x else c y x) = - (if c x y = 0 then d x y else c x y)
    by_cases e : c x y = 0
    · rw [if_pos e, if_pos (by omega)]; exact h2
    · rw [if_neg e, if_neg (by omega)]; exact h1
  tr x y z h1 h2 := by
    show (if c x z = 0 then d x z else c x z) < 0
    have h1 : (if c x y = 0 then d x y else c x y) < 0 := h1
    have h2 : (if c y z = 0 then d y z else c y z) < 0 := h2
    by_cases e1 : c x y = 0
    · rw [if_pos e1] at h1
      have e3 := h.eq x y z e1
      by_cases e2 : c y z = 0
      · rw [if_pos e2] at h2; rw [if_pos (by omega)]; exact k.tr x y z h1 h2
      · rw [if_neg e2] at h2; rw [if_neg (by omega)]; omega
    · rw [if_neg e1] at h1
      by_cases e2 : c y z = 0
      · have e3 := h.eqr x y z e2
        rw [if_neg (by omega)]; omega
      · rw [if_neg e2] at h2
        have := h.tr x y z h1 h2
        rw [if_neg (by omega)]; exact this
  eq x y z h1 := by
    have h1 : (if c x y = 0 then d x y else c x y) = 0 := h1
    show (if c x z = 0 then d x z else c x z) = (if c y z = 0 then d y z else c y z)
    by_cases e1 : c x y = 0
    · rw [if_pos e1] at h1
      rw [h.eq x y z e1, k.eq x y z h1]
    · rw [if_neg e1] at h1; exact absurd h1 e1
theorem Cmp.nil {α : Type} : Cmp (fun _ _ : α => 0) := ⟨fun _ _ => rfl, fun _ _ _ h => absurd h (by decide), fun _ _ _ _ => rfl⟩
theorem Cmp.on {α β : Type} {c : β → β → Int} (f : α → β) (h : Cmp c) : Cmp (fun x y => c (f x) (f y)) := ⟨fun x y => h.swap (f x) (f y), fun x y z => h.tr (f x) (f y) (f z), fun x y z => h.eq (f x) (f y) (f z)⟩
theorem cmp_int : Cmp cmpI := ⟨fun x y => by unfold cmpI; by_cases h1 : x < y <;> by_cases h2 : y < x <;> simp [h1, h2] <;> omega, fun x y z h1 h2 => by unfold cmpI at *; (repeat (split at h1)) <;> (repeat (split at h2)) <;> (repeat (split)) <;> omega, fun x y z h => by rw [cmpI_zero.1 h]⟩
theorem cmpb_lt (x y : UInt8) (xs ys : List UInt8) : Lib.compareBytes (x :: xs) (y :: ys) < 0 ↔ x.toNat < y.toNat ∨ (x.toNat = y.toNat ∧ Lib.compareBytes xs ys < 0) := by
  rw [Lib.compareBytes]
  by_cases a1 : x < y
  · rw [if_pos a1]
    have := UInt8.lt_iff_toNat_lt.1 a1
    constructor
    · intro _; exact .inl this
    · intro _; decide
  · have b1 : ¬ x.toNat < y.toNat := fun h => a1 (UInt8.lt_iff_toNat_lt.2 h)
    rw [if_neg a1]
    by_cases a2 : y < x
    · have := UInt8.lt_iff_toNat_lt.1 a2
      rw [if_pos a2]
      constructor
      · intro h; exact absurd h (by decide)
      · intro h; omega
    · have b2 : ¬ y.toNat < x.toNat := fun h => a2 (UInt8.lt_iff_toNat_lt.2 h)
      rw [if_neg a2]
      constructor
      · intro h; exact .inr ⟨by omega, h⟩
      · rintro (h | h)
        · omega
        · exact h.2
theorem cmp_bytes_tr : ∀ (a b c : List UInt8), Lib.compareBytes a b < 0 → Lib.compareBytes b c < 0 → Lib.compareBytes a c < 0
  | [], [], _, h, _ => by simp [Lib.compareBytes] at h
  | [], _ :: _, [], _, h => by simp [Lib.compareBytes] at h
  | [], _ :: _, _ :: _, _, _ => by simp [Lib.compareBytes]
  | _ :: _, [], _, h, _ => by simp [Lib.compareBytes] at h
  | _ :: _, _ :: _, [], _, h => by simp [Lib.compareBytes] at h
  | x :: xs, y :: ys, z :: zs, h1, h2 => by
    rw [cmpb_lt] at h1 h2 ⊢
    rcases h1 with h1 | h1
    · rcases h2 with h2 | h2
      · left; omega
      · left; omega
    · rcases h2 with h2 | h2
      · left; omega
      · right; exact ⟨by omega, cmp_bytes_tr xs ys zs h1.2 h2.2⟩
theorem cmp_bytes : Cmp Lib.compareBytes := ⟨cmp_swap, cmp_bytes_tr, fun x y z h => by rw [(cmp_zero x y).1 h]⟩
end Go.Proofs.Ytgdlhajfajddiaa
namespace Cp
open Go Go.RowKit Go.Great
section
variable {P : Program} {n : Nat} {E : Env} {M0 : Av} {w0 : World} {S : Nat → Prop} {rs : List Res} {β : Type} {e : TypeId} {sz : Nat} {f : β → List Pr} {Φ : List β → Prop} {v : Value}
theorem lens_nil {rows : List (List Pr)} (h : rows = []) : Pr.le (is (.slice none 0 0)) (andIs (.slice none 0 0) (lens rows.length)) := by
  subst h; exact fun _ _ _ hv => ⟨hv, ⟨none, 0, by rw [hv]; rfl⟩⟩
theorem lens_le {v : Value} {a b : Nat} (h : a = b) : Pr.le (andIs v (lens a)) (andIs v (lens b)) := by subst h; exact Pr.le_refl _
end
end Cp
namespace Go.Proofs.Ytgdlhajfajddiaa
open Go Go.RowKit Cp

section
variable {β : Type} [DecidableEq β]
end
deriving instance DecidableEq for Fnd
end Go.Proofs.Ytgdlhajfajddiaa
namespace Go.Proofs.Ytgdlhajfajddiaa
open Go Go.RowKit Cp

end Go.Proofs.Ytgdlhajfajddiaa
namespace Go.Proofs.Ytgdlhajfajddiaa
open Go Go.RowKit Cp

end Go.Proofs.Ytgdlhajfajddiaa
namespace Go.Proofs.Ytgdlhajfajddiaa
open Go Go.RowKit Cp
instance : Inhabited Fnd := ⟨⟨0, [], 0, 0, 0, 0, [], 0, 0, 0, []⟩⟩
end Go.Proofs.Ytgdlhajfajddiaa
namespace Go.Proofs.Ytgdlhajfajddiaa
open Go Go.RowKit Cp
end Go.Proofs.Ytgdlhajfajddiaa
namespace Cp
open Go Go.RowKit Go.Great
section
variable {P : Program} {n : Nat} {E : Env} {M0 : Av} {w0 : World} {S : Nat → Prop} {rs : List Res} {o : Oper}
theorem ok_lennil {I : Asn} {t e : TypeId} {x : Operand} (ho : o.op = .call { callee := .builtin .len, args := #[x], argTypes := #[t] }) (ht : P.underlying t = some (.slice e)) (hx : VL E x (is (.slice none 0 0))) : OpOK P I o E (int 0) :=
  OpOK.le (ok_len (sz := 1) (rows := []) ho ht (VL.le hx (nil_slice 1))) (Pr.le_refl _)
end
end Cp
namespace Go.Proofs.Ytgdlhajfajddiaa
open Go Go.RowKit Cp
end Go.Proofs.Ytgdlhajfajddiaa
namespace Go.Proofs.Ytgdlhajfajddiaa
open Go Go.RowKit Cp

def dist (f g : Fnd) : Int := max (f.day - g.day) (g.day - f.day)
def closer (f g b : Fnd) : Bool := decide (orL [cmpI (dist f g) (dist f b), cmpI g.day b.day, cmpI g.machine b.machine] < 0)
def skipN (f g : Fnd) (gap : Int) : Bool := decide (g.machine = 0 ∨ ¬ g.host = f.host ∨ gap < dist f g)
/-- The nearest with a machine, among the first k; -1 without one. -/
def nearK (l : List Fnd) (f : Fnd) (gap : Int) : Nat → Int
  | 0 => -1
  | k + 1 => match l[k]? with
    | none => nearK l f gap k
    | some g => if skipN f g gap then nearK l f gap k else if nearK l f gap k < 0 then (k : Nat) else match l[(nearK l f gap k).toNat]? with
      | none => (k : Nat)
      | some b => if closer f g b then (k : Nat) else nearK l f gap k
abbrev near (l : List Fnd) (f : Fnd) (gap : Int) : Int := nearK l f gap l.length
theorem nearK_skip {l : List Fnd} {f g : Fnd} {gap : Int} {k : Nat} (hg : l[k]? = some g) (h : skipN f g gap = true) : nearK l f gap (k + 1) = nearK l f gap k := by
  show (match l[k]? with | none => _ | some g => _) = _
  rw [hg]; exact if_pos h
theorem nearK_first {l : List Fnd} {f g : Fnd} {gap : Int} {k : Nat} (hg : l[k]? = some g) (h : skipN f g gap = false) (h0 : nearK l f gap k < 0) : nearK l f gap (k + 1) = (k : Nat) := by
  show (match l[k]? with | none => _ | some g => _) = _
  rw [hg]; show (if skipN f g gap = true then _ else _) = _
  rw [if_neg (by simp [h]), if_pos h0]
theorem nearK_two {l : List Fnd} {f g b : Fnd} {gap : Int} {k : Nat} (hg : l[k]? = some g) (h : skipN f g gap = false) (h0 : ¬ nearK l f gap k < 0) (hb : l[(nearK l f gap k).toNat]? = some b) : nearK l f gap (k + 1) = if closer f g b then ((k : Nat) : Int) else nearK l f gap k := by
  show (match l[k]? with | none => _ | some g => _) = _
  rw [hg]; show (if skipN f g gap = true then _ else _) = _
  rw [if_neg (by simp [h]), if_neg h0, hb]
theorem nearK_in (l : List Fnd) (f : Fnd) (gap : Int) : ∀ k, nearK l f gap k = -1 ∨ (0 ≤ nearK l f gap k ∧ (nearK l f gap k).toNat < k ∧ ∃ g, l[(nearK l f gap k).toNat]? = some g ∧ skipN f g gap = false)
  | 0 => .inl rfl
  | k + 1 => by
    have ih := nearK_in l f gap k
    cases hg : l[k]? with
    | none =>
      have e : nearK l f gap (k + 1) = nearK l f gap k := by show (match l[k]? with | none => _ | some g => _) = _; rw [hg]
      rw [e]
      rcases ih with ih | ⟨h1, h2, h3⟩
      · exact .inl ih
      · exact .inr ⟨h1, by omega, h3⟩
    | some g =>
      have hk : ∀ e : nearK l f gap (k + 1) = (k : Nat), skipN f g gap = false → (nearK l f gap (k + 1) = -1 ∨ (0 ≤ nearK l f gap (k + 1) ∧ (nearK l f gap (k + 1)).toNat < k + 1 ∧ ∃ g, l[(nearK l f gap (k + 1)).toNat]? = some g ∧ skipN f g gap = false)) := by
        intro e hs
        rw [e]
        exact .inr ⟨by omega, by simp, g, by rw [Int.toNat_natCast]; exact hg, hs⟩
      have hold : nearK l f gap (k + 1) = nearK l f gap k → (nearK l f gap (k + 1) = -1 ∨ (0 ≤ nearK l f gap (k + 1) ∧ (nearK l f gap (k + 1)).toNat < k + 1 ∧ ∃ g, l[(nearK l f gap (k + 1)).toNat]? = some g ∧ skipN f g gap = false)) := by
        intro e
        rw [e]
        rcases ih with ih | ⟨h1, h2, h3⟩
        · exact .inl ih
        · exact .inr ⟨h1, by omega, h3⟩
      cases hs : skipN f g gap with
      | true => exact hold (nearK_skip hg hs)
      | false =>
        rcases ih with h1 | ⟨h1, h2, b, hb, h3⟩
        · exact hk (nearK_first hg hs (by omega)) hs
        · have e := nearK_two hg hs (by omega) hb
          cases hc : closer f g b with
          | true => rw [hc] at e; exact hk e hs
          | false => rw [hc] at e; exact hold e
/-- The machine that a finding is of, or whose it was made. -/
def mOf (l : List Fnd) (gap : Int) (i : Nat) : Int := match l[i]? with
  | none => 0
  | some f => if f.machine = 0 then (match l[(near l f gap).toNat]? with | some g => if near l f gap < 0 then 0 else g.machine | none => 0) else f.machine
theorem mOf_own {l : List Fnd} {gap : Int} {i : Nat} {f : Fnd} (hf : l[i]? = some f) (h : ¬ f.machine = 0) : mOf l gap i = f.machine := by
  unfold mOf; rw [hf]; exact if_neg h
theorem mOf_near {l : List Fnd} {gap : Int} {i : Nat} {f g : Fnd} (hf : l[i]? = some f) (h : f.machine = 0) (hn : 0 ≤ near l f gap) (hg : l[(near l f gap).toNat]? = some g) : mOf l gap i = g.machine := by
  unfold mOf; rw [hf]; show (if _ then _ else _) = _
  rw [if_pos h, hg]; exact if_neg (by omega)
theorem mOf_loose {l : List Fnd} {gap : Int} {i : Nat} {f : Fnd} (hf : l[i]? = some f) (h : f.machine = 0) (hn : near l f gap < 0) : mOf l gap i = 0 := by
  unfold mOf; rw [hf]; show (if _ then _ else _) = _
  rw [if_pos h]; split
  · rw [if_pos hn]
  · rfl
theorem near_get {l : List Fnd} {f : Fnd} {gap : Int} (hn : 0 ≤ near l f gap) : (near l f gap).toNat < l.length ∧ ∃ g, l[(near l f gap).toNat]? = some g ∧ ¬ g.machine = 0 ∧ g.host = f.host ∧ dist f g ≤ gap := by
  rcases nearK_in l f gap l.length with h | ⟨h1, h2, g, hg, h3⟩
  · have h : near l f gap = -1 := h
    omega
  · refine ⟨h2, g, hg, ?_⟩
    unfold skipN at h3
    rw [decide_eq_false_iff_not] at h3
    refine ⟨fun e => h3 (.inl e), Classical.byContradiction fun e => h3 (.inr (.inl e)), ?_⟩
    rcases Int.lt_or_le gap (dist f g) with h | h
    · exact absurd (.inr (.inr h)) h3
    · exact h
/-- Of a machine: itself, or the one that it is near to. -/
theorem mOf_src {l : List Fnd} {gap : Int} {i : Nat} {f : Fnd} (hf : l[i]? = some f) (h : ¬ mOf l gap i = 0) : (¬ f.machine = 0 ∧ mOf l gap i = f.machine) ∨ (f.machine = 0 ∧ 0 ≤ near l f gap ∧ ∃ g, l[(near l f gap).toNat]? = some g ∧ g.machine = mOf l gap i ∧ ¬ g.machine = 0) := by
  by_cases hm : f.machine = 0
  · right
    rcases Int.lt_or_le (near l f gap) 0 with hn | hn
    · exact absurd (mOf_loose hf hm hn) h
    · obtain ⟨h1, g, hg, h2, _⟩ := near_get hn
      exact ⟨hm, hn, g, hg, (mOf_near hf hm hn hg).symm, h2⟩
  · exact .inl ⟨hm, mOf_own hf hm⟩
theorem loose_of {l : List Fnd} {gap : Int} {i : Nat} {f : Fnd} (hf : l[i]? = some f) (h : mOf l gap i = 0) : f.machine = 0 ∧ near l f gap < 0 := by
  by_cases hm : f.machine = 0
  · refine ⟨hm, ?_⟩
    rcases Int.lt_or_le (near l f gap) 0 with hn | hn
    · exact hn
    · obtain ⟨h1, g, hg, h2, _⟩ := near_get hn
      rw [mOf_near hf hm hn hg] at h; exact absurd h h2
  · rw [mOf_own hf hm] at h; exact absurd h hm
/-- The last one without any machine, among the first k. -/
def prevK (l : List Fnd) (gap : Int) : Nat → Int
  | 0 => -1
  | k + 1 => if mOf l gap k = 0 then (k : Nat) else prevK l gap k
theorem prevK_in (l : List Fnd) (gap : Int) : ∀ k, prevK l gap k = -1 ∨ (0 ≤ prevK l gap k ∧ (prevK l gap k).toNat < k ∧ mOf l gap (prevK l gap k).toNat = 0)
  | 0 => .inl rfl
  | k + 1 => by
    unfold prevK
    split
    · rename_i h; exact .inr ⟨by omega, by simp, by simpa using h⟩
    · rcases prevK_in l gap k with h | ⟨h1, h2, h3⟩
      · exact .inl h
      · exact .inr ⟨h1, by omega, h3⟩
abbrev nextTo (l : List Fnd) (gap : Int) (p i : Nat) : Bool := match l[p]?, l[i]? with
  | some g, some f => decide (g.host = f.host ∧ dist f g ≤ gap)
  | _, _ => false
/-- The least finding of the same entity. -/
def rootS (l : List Fnd) (gap : Int) (i : Nat) : Nat :=
  if mOf l gap i = 0 then (if _h : 0 ≤ prevK l gap i ∧ (prevK l gap i).toNat < i ∧ nextTo l gap (prevK l gap i).toNat i = true then rootS l gap (prevK l gap i).toNat else i)
  else ((List.range i).find? fun k => decide (mOf l gap k = mOf l gap i)).getD i
termination_by i
decreasing_by omega
theorem rootS_loose {l : List Fnd} {gap : Int} {i : Nat} (h : mOf l gap i = 0) (hp : 0 ≤ prevK l gap i) (hn : nextTo l gap (prevK l gap i).toNat i = true) : rootS l gap i = rootS l gap (prevK l gap i).toNat := by
  have h2 : (prevK l gap i).toNat < i := by rcases prevK_in l gap i with h1 | ⟨_, h1, _⟩ <;> omega
  rw [rootS, if_pos h, dif_pos ⟨hp, h2, hn⟩]
theorem rootS_alone {l : List Fnd} {gap : Int} {i : Nat} (h : mOf l gap i = 0) (hn : ¬ (0 ≤ prevK l gap i ∧ nextTo l gap (prevK l gap i).toNat i = true)) : rootS l gap i = i := by
  rw [rootS, if_pos h, dif_neg (fun hh => hn ⟨hh.1, hh.2.2⟩)]
theorem rootS_le (l : List Fnd) (gap : Int) : ∀ i, rootS l gap i ≤ i := by
  intro i
  induction i using Nat.strongRecOn with
  | _ i ih =>
    rw [rootS]
    split
    · split
      · rename_i h; have := ih _ h.2.1; omega
      · exact Nat.le_refl _
    · cases hf : (List.range i).find? fun k => decide (mOf l gap k = mOf l gap i) with
      | none => exact Nat.le_refl _
      | some k => have := List.mem_range.1 (List.mem_of_find?_eq_some hf); simp; omega
theorem rootS_m {l : List Fnd} {gap : Int} {i : Nat} (h : ¬ mOf l gap i = 0) : mOf l gap (rootS l gap i) = mOf l gap i ∧ ∀ j, j < rootS l gap i → ¬ mOf l gap j = mOf l gap i := by
  rw [rootS, if_neg h]
  cases hf : (List.range i).find? fun k => decide (mOf l gap k = mOf l gap i) with
  | none =>
    rw [List.find?_eq_none] at hf
    exact ⟨rfl, fun j hj e => hf j (List.mem_range.2 hj) (by simpa using e)⟩
  | some k =>
    rw [List.find?_range_eq_some] at hf
    obtain ⟨h1, h2, h3⟩ := hf
    exact ⟨by simpa using h1, fun j hj => by simpa using h3 j hj⟩
theorem rootS_meq {l : List Fnd} {gap : Int} {i j : Nat} (h : ¬ mOf l gap i = 0) (e : mOf l gap j = mOf l gap i) : rootS l gap j = rootS l gap i := by
  obtain ⟨h1, h2⟩ := rootS_m h
  obtain ⟨h3, h4⟩ := rootS_m (i := j) (by rw [e]; exact h)
  rw [e] at h3 h4
  rcases Nat.lt_trichotomy (rootS l gap j) (rootS l gap i) with h5 | h5 | h5
  · exact absurd h3 (h2 _ h5)
  · exact h5
  · exact absurd h1 (h4 _ h5)
/-- The last one of a machine, among the first k. -/
def lastM (l : List Fnd) (m : Int) : Nat → Int
  | 0 => -1
  | k + 1 => if (l[k]?).map (·.machine) = some m then (k : Nat) else lastM l m k
theorem lastM_in (l : List Fnd) (m : Int) : ∀ k, lastM l m k = -1 ∨ (0 ≤ lastM l m k ∧ (lastM l m k).toNat < k ∧ ∃ g, l[(lastM l m k).toNat]? = some g ∧ g.machine = m)
  | 0 => .inl rfl
  | k + 1 => by
    unfold lastM
    split
    · rename_i h
      rw [Option.map_eq_some_iff] at h
      obtain ⟨g, h1, h2⟩ := h
      exact .inr ⟨by omega, by simp, g, by rw [Int.toNat_natCast]; exact h1, h2⟩
    · rcases lastM_in l m k with h | ⟨h1, h2, h3⟩
      · exact .inl h
      · exact .inr ⟨h1, by omega, h3⟩
theorem lastM_max {l : List Fnd} {m : Int} : ∀ (k j : Nat) (g : Fnd), j < k → l[j]? = some g → g.machine = m → (j : Int) ≤ lastM l m k
  | 0, _, _, h, _, _ => absurd h (Nat.not_lt_zero _)
  | k + 1, j, g, h, hg, hm => by
    unfold lastM
    split
    · omega
    · rename_i hk
      have : j < k := by
        rcases Nat.lt_or_eq_of_le (Nat.le_of_lt_succ h) with h1 | h1
        · exact h1
        · rw [h1] at hg; exact absurd (by rw [hg]; simp [hm]) hk
      exact lastM_max k j g this hg hm
/-- With which one a finding is joined. -/
def edgeOf (l : List Fnd) (gap : Int) (i : Nat) : Int := match l[i]? with
  | none => -1
  | some f => if f.machine = 0 then (if near l f gap < 0 then (if 0 ≤ prevK l gap i ∧ nextTo l gap (prevK l gap i).toNat i = true then prevK l gap i else -1) else near l f gap) else lastM l f.machine i
def joinR (R : Nat → Nat) (i k : Nat) : Nat → Nat := fun x => if R x = max (R i) (R k) then min (R i) (R k) else R x
structure RepR (R : Nat → Nat) : Prop where
  le : ∀ x, R x ≤ x
  idem : ∀ x, R (R x) = R x
theorem joinR_rep {R : Nat → Nat} (h : RepR R) (i k : Nat) : RepR (joinR R i k) := by
  refine ⟨fun x => ?_, fun x => ?_⟩
  · unfold joinR; have := h.le x; split <;> omega
  · have hi := h.idem i
    have hk := h.idem k
    have hx := h.idem x
    have hmin : R (min (R i) (R k)) = min (R i) (R k) := by rcases Nat.le_total (R i) (R k) with h1 | h1; rw [Nat.min_eq_left h1]; exact hi; rw [Nat.min_eq_right h1]; exact hk
    unfold joinR
    by_cases e : R x = max (R i) (R k)
    · rw [if_pos e, hmin]; split <;> rfl
    · rw [if_neg e, hx, if_neg e]
theorem joinR_both (R : Nat → Nat) (i k : Nat) : joinR R i k i = joinR R i k k := by
  unfold joinR
  rcases Nat.lt_trichotomy (R i) (R k) with h | h | h
  · rw [if_neg (by omega), if_pos (by omega)]; omega
  · rw [if_pos (by omega), if_pos (by omega)]
  · rw [if_pos (by omega), if_neg (by omega)]; omega
theorem joinR_mono {R : Nat → Nat} {x y : Nat} (h : R x = R y) (i k : Nat) : joinR R i k x = joinR R i k y := by unfold joinR; rw [h]
theorem joinR_sound {R key : Nat → Nat} (h : ∀ x y, R x = R y → key x = key y) {i k : Nat} (e : key i = key k) : ∀ x y, joinR R i k x = joinR R i k y → key x = key y := by
  have hm : ∀ x, (R x = R i ∨ R x = R k) → key x = key i := by
    rintro x (h1 | h1)
    · exact h _ _ h1
    · rw [e]; exact h _ _ h1
  intro x y hxy
  unfold joinR at hxy
  have h1 : max (R i) (R k) = R i ∨ max (R i) (R k) = R k := by omega
  have h2 : min (R i) (R k) = R i ∨ min (R i) (R k) = R k := by omega
  by_cases ex : R x = max (R i) (R k) <;> by_cases ey : R y = max (R i) (R k)
  · rw [hm x (by omega), hm y (by omega)]
  · rw [if_pos ex, if_neg ey] at hxy; rw [hm x (by omega), hm y (by omega)]
  · rw [if_neg ex, if_pos ey] at hxy; rw [hm x (by omega), hm y (by omega)]
  · rw [if_neg ex, if_neg ey] at hxy; exact h _ _ hxy
/-- What the joins of the first n make. -/
def RR (l : List Fnd) (gap : Int) : Nat → Nat → Nat
  | 0 => fun x => x
  | n + 1 => if edgeOf l gap n < 0 then RR l gap n else joinR (RR l gap n) n (edgeOf l gap n).toNat
theorem RR_rep (l : List Fnd) (gap : Int) : ∀ n, RepR (RR l gap n)
  | 0 => ⟨fun _ => Nat.le_refl _, fun _ => rfl⟩
  | n + 1 => by unfold RR; split; exact RR_rep l gap n; exact joinR_rep (RR_rep l gap n) _ _
theorem RR_mono {l : List Fnd} {gap : Int} {x y n : Nat} (h : RR l gap n x = RR l gap n y) : ∀ m, n ≤ m → RR l gap m x = RR l gap m y := by
  intro m hm
  induction m with
  | zero => have : n = 0 := by omega
            rw [this] at h; exact h
  | succ m ih =>
    rcases Nat.lt_or_eq_of_le hm with h1 | h1
    · unfold RR; split
      · exact ih (by omega)
      · exact joinR_mono (ih (by omega)) _ _
    · rw [← h1]; exact h
theorem RR_edge {l : List Fnd} {gap : Int} {i n : Nat} (hi : i < n) (he : 0 ≤ edgeOf l gap i) : RR l gap n i = RR l gap n (edgeOf l gap i).toNat := by
  refine RR_mono (n := i + 1) ?_ n hi
  show (if _ then _ else _ : Nat → Nat) i = (if _ then _ else _ : Nat → Nat) _
  rw [if_neg (by omega)]; exact joinR_both _ _ _
theorem edge_sound {l : List Fnd} {gap : Int} {i : Nat} (he : 0 ≤ edgeOf l gap i) : rootS l gap i = rootS l gap (edgeOf l gap i).toNat := by
  unfold edgeOf at he ⊢
  cases hf : l[i]? with
  | none => rw [hf] at he; exact absurd (show (0 : Int) ≤ -1 from he) (by decide)
  | some f =>
    rw [hf] at he
    simp only [] at he ⊢
    by_cases hm : f.machine = 0
    · rw [if_pos hm] at he ⊢
      by_cases hn : near l f gap < 0
      · rw [if_pos hn] at he ⊢
        by_cases hp : 0 ≤ prevK l gap i ∧ nextTo l gap (prevK l gap i).toNat i = true
        · rw [if_pos hp]; exact rootS_loose (mOf_loose hf hm hn) hp.1 hp.2
        · rw [if_neg hp] at he; omega
      · rw [if_neg hn]
        obtain ⟨h1, g, hg, h2, _⟩ := near_get (l := l) (f := f) (gap := gap) (by omega)
        have e1 := mOf_near hf hm (by omega) hg
        have e2 := mOf_own (gap := gap) hg h2
        exact rootS_meq (by rw [e2]; exact h2) (by rw [e1, e2])
    · rw [if_neg hm] at he ⊢
      rcases lastM_in l f.machine i with h | ⟨h1, h2, g, hg, h3⟩
      · omega
      · have e1 := mOf_own (gap := gap) hf hm
        have e2 := mOf_own (gap := gap) hg (by rw [h3]; exact hm)
        exact rootS_meq (by rw [e2, h3]; exact hm) (by rw [e1, e2, h3])
theorem RR_sound (l : List Fnd) (gap : Int) : ∀ n x y, RR l gap n x = RR l gap n y → rootS l gap x = rootS l gap y
  | 0, _, _, h => by have h : _ = _ := h; exact congrArg _ h
  | n + 1, x, y, h => by
    unfold RR at h
    split at h
    · exact RR_sound l gap n x y h
    · exact joinR_sound (RR_sound l gap n) (edge_sound (by omega)) x y h
theorem edge_own {l : List Fnd} {gap : Int} {i : Nat} {f : Fnd} (hf : l[i]? = some f) (h : ¬ f.machine = 0) : edgeOf l gap i = lastM l f.machine i := by unfold edgeOf; rw [hf]; exact if_neg h
theorem edge_near {l : List Fnd} {gap : Int} {i : Nat} {f : Fnd} (hf : l[i]? = some f) (h : f.machine = 0) (hn : ¬ near l f gap < 0) : edgeOf l gap i = near l f gap := by unfold edgeOf; rw [hf]; show (if _ then _ else _) = _; rw [if_pos h, if_neg hn]
theorem edge_loose {l : List Fnd} {gap : Int} {i : Nat} {f : Fnd} (hf : l[i]? = some f) (h : f.machine = 0) (hn : near l f gap < 0) : edgeOf l gap i = if 0 ≤ prevK l gap i ∧ nextTo l gap (prevK l gap i).toNat i = true then prevK l gap i else -1 := by unfold edgeOf; rw [hf]; show (if _ then _ else _) = _; rw [if_pos h, if_pos hn]
/-- All of a machine are joined. -/
theorem RR_machine {l : List Fnd} {gap : Int} {m : Int} (hm : ¬ m = 0) : ∀ j i f g, i < j → l[i]? = some f → l[j]? = some g → f.machine = m → g.machine = m → RR l gap l.length i = RR l gap l.length j := by
  intro j
  induction j using Nat.strongRecOn with
  | _ j ih =>
    intro i f g hij hf hg hfm hgm
    have hjl := (show j < l.length by rcases Nat.lt_or_ge j l.length with h | h; exact h; rw [List.getElem?_eq_none h] at hg; cases hg)
    have he := edge_own (gap := gap) hg (by rw [hgm]; exact hm)
    have hmax := lastM_max j i f hij hf (by rw [hfm, ← hgm])
    rcases lastM_in l g.machine j with h | ⟨h1, h2, u, hu, h3⟩
    · omega
    · have hj := RR_edge (n := l.length) hjl (by rw [he]; exact h1)
      rw [he] at hj
      rcases Nat.lt_or_eq_of_le (show i ≤ (lastM l g.machine j).toNat by omega) with h4 | h4
      · rw [hj]; exact ih _ h2 i f u h4 hf hu hfm (by rw [h3, hgm])
      · rw [hj, h4]
theorem RR_machine' {l : List Fnd} {gap : Int} {m : Int} (hm : ¬ m = 0) {i j : Nat} {f g : Fnd} (hf : l[i]? = some f) (hg : l[j]? = some g) (hfm : f.machine = m) (hgm : g.machine = m) : RR l gap l.length i = RR l gap l.length j := by
  rcases Nat.lt_trichotomy i j with h | h | h
  · exact RR_machine hm j i f g h hf hg hfm hgm
  · rw [h]
  · exact (RR_machine hm i j g f h hg hf hgm hfm).symm
theorem RR_actual {l : List Fnd} {gap : Int} {i : Nat} (hi : i < l.length) (h : ¬ mOf l gap i = 0) : ∃ j g, l[j]? = some g ∧ g.machine = mOf l gap i ∧ RR l gap l.length i = RR l gap l.length j := by
  obtain ⟨f, hf⟩ := at_ hi
  rcases mOf_src hf h with ⟨h1, h2⟩ | ⟨h1, h2, g, hg, h3, h4⟩
  · exact ⟨i, f, hf, h2.symm, rfl⟩
  · have he := edge_near (gap := gap) hf h1 (by omega)
    have := RR_edge (n := l.length) hi (by rw [he]; exact h2)
    rw [he] at this
    exact ⟨_, g, hg, h3, this⟩
theorem RR_root {l : List Fnd} {gap : Int} : ∀ i, i < l.length → RR l gap l.length i = RR l gap l.length (rootS l gap i) := by
  intro i
  induction i using Nat.strongRecOn with
  | _ i ih =>
    intro hi
    obtain ⟨f, hf⟩ := at_ hi
    by_cases h : mOf l gap i = 0
    · obtain ⟨h1, h2⟩ := loose_of hf h
      by_cases hp : 0 ≤ prevK l gap i ∧ nextTo l gap (prevK l gap i).toNat i = true
      · have he := edge_loose hf h1 h2
        rw [if_pos hp] at he
        have h3 := RR_edge (n := l.length) hi (by rw [he]; exact hp.1)
        rw [he] at h3
        have h4 : (prevK l gap i).toNat < i := by rcases prevK_in l gap i with h5 | ⟨_, h5, _⟩ <;> omega
        rw [h3, rootS_loose h hp.1 hp.2]
        exact ih _ h4 (by omega)
      · rw [rootS_alone h hp]
    · obtain ⟨h1, _⟩ := rootS_m h
      have hr := rootS_le l gap i
      obtain ⟨j, g, hg, h2, h3⟩ := RR_actual hi h
      obtain ⟨j', g', hg', h4, h5⟩ := RR_actual (l := l) (gap := gap) (i := rootS l gap i) (by omega) (by rw [h1]; exact h)
      rw [h3, h5]
      exact RR_machine' h hg hg' h2 (by rw [h4, h1])
theorem RR_eq {l : List Fnd} {gap : Int} {i : Nat} (hi : i < l.length) : RR l gap l.length i = rootS l gap i := by
  have hr := RR_rep l gap l.length
  have h1 := RR_root (gap := gap) i hi
  have h2 := hr.le (rootS l gap i)
  have h3 := RR_sound l gap l.length _ _ (hr.idem i)
  have h4 := rootS_le l gap (RR l gap l.length i)
  omega
theorem rootS_idem {l : List Fnd} {gap : Int} {i : Nat} (hi : i < l.length) : rootS l gap (rootS l gap i) = rootS l gap i := by
  have hr := RR_rep l gap l.length
  have h1 := rootS_le l gap i
  rw [← RR_eq (l := l) (gap := gap) (i := rootS l gap i) (by omega), ← RR_root i hi, RR_eq hi]

end Go.Proofs.Ytgdlhajfajddiaa
namespace Go.Proofs.Ytgdlhajfajddiaa
open Go Go.RowKit Cp

/-- An entity. -/
structure Ent where
  num : Int
  hosts : List (List UInt8)
  machines : List Int
  fnds : List Int
deriving DecidableEq
section
variable {α : Type}
/-- Into an ascending list, once. -/
def insC (c : α → α → Int) (l : List α) (x : α) : List α := match l with
  | [] => [x]
  | y :: r => if c y x < 0 then y :: insC c r x else if c y x = 0 then y :: r else x :: y :: r
theorem insC_mem {c : α → α → Int} (he : ∀ x y, c x y = 0 → x = y) {x z : α} : ∀ {l : List α}, z ∈ insC c l x ↔ z ∈ l ∨ z = x
  | [] => by simp [insC]
  | y :: r => by
    unfold insC
    split
    · rw [List.mem_cons, insC_mem he, List.mem_cons, or_assoc]
    · split
      · rename_i h
        constructor
        · exact .inl
        · rintro (h1 | rfl)
          · exact h1
          · rw [← he _ _ h]; exact List.mem_cons_self ..
      · rw [List.mem_cons]
        constructor
        · rintro (h | h)
          · exact .inr h
          · exact .inl h
        · rintro (h | h)
          · exact .inr h
          · exact .inl h
theorem insC_strict {c : α → α → Int} (hc : Cmp c) (he : ∀ x y, c x y = 0 → x = y) {x : α} : ∀ {l : List α}, l.Pairwise (fun a b => c a b < 0) → (insC c l x).Pairwise (fun a b => c a b < 0)
  | [], _ => by unfold insC; simp
  | y :: r, h => by
    obtain ⟨h1, h2⟩ := List.pairwise_cons.1 h
    unfold insC
    split
    · rename_i hlt
      refine List.pairwise_cons.2 ⟨fun z hz => ?_, insC_strict hc he h2⟩
      rcases (insC_mem he).1 hz with hz | rfl
      · exact h1 z hz
      · exact hlt
    · split
      · exact h
      · rename_i hn h0
        have hs := hc.swap y x
        have hxy : c x y < 0 := by omega
        refine List.pairwise_cons.2 ⟨fun z hz => ?_, h⟩
        rcases List.mem_cons.1 hz with rfl | hz
        · exact hxy
        · exact hc.tr x y z hxy (h1 z hz)
theorem insC_len (c : α → α → Int) (x : α) : ∀ l : List α, (insC c l x).length ≤ l.length + 1
  | [] => by simp [insC]
  | y :: r => by
    unfold insC
    have := insC_len c x r
    split
    · simp only [List.length_cons]; omega
    · split <;> simp
/-- Where a search for the first place that is not before finds it. -/
theorem insC_at {c : α → α → Int} {x : α} : ∀ {l : List α} {k : Nat}, k ≤ l.length → (∀ (j : Nat) y, j < k → l[j]? = some y → c y x < 0) → (∀ y, l[k]? = some y → ¬ c y x < 0) → insC c l x = if (l[k]?).any (fun y => decide (c y x = 0)) then l else l.take k ++ x :: l.drop k
  | [], k, hk, _, _ => by
    have : k = 0 := by simpa using hk
    subst this; rfl
  | y :: r, 0, _, _, h2 => by
    have := h2 y rfl
    unfold insC
    rw [if_neg this]
    show _ = if (some y).any _ then _ else _
    by_cases h : c y x = 0
    · rw [if_pos h, if_pos (by simp [h])]
    · rw [if_neg h, if_neg (by simp [h])]; rfl
  | y :: r, k + 1, hk, h1, h2 => by
    have h := h1 0 y (by omega) rfl
    unfold insC
    rw [if_pos h, insC_at (k := k) (by simpa using hk) (fun j z hj hz => h1 (j + 1) z (by omega) (by simpa using hz)) (fun z hz => h2 z (by simpa using hz))]
    rw [List.getElem?_cons_succ]
    split <;> simp
end
abbrev insT (l : List (List UInt8)) (x : List UInt8) : List (List UInt8) := insC Lib.compareBytes l x
abbrev insN (l : List Int) (x : Int) : List Int := insC cmpI l x
/-- One more finding of an entity. -/
def entAdd (e : Ent) (f : Fnd) (i : Int) : Ent := ⟨e.num, insT e.hosts f.host, if f.machine = 0 then e.machines else insN e.machines f.machine, e.fnds ++ [i]⟩
/-- The entity of r, of the findings before n. -/
def entK (l : List Fnd) (root : Nat → Nat) (r : Nat) : Nat → Ent
  | 0 => ⟨(r : Nat), [], [], []⟩
  | n + 1 => match l[n]? with
    | none => entK l root r n
    | some f => if root n = r then entAdd (entK l root r n) f (n : Nat) else entK l root r n
def rootsK (root : Nat → Nat) (n : Nat) : List Nat := (List.range n).filter fun r => decide (root r = r)
/-- The entities, of the findings before n. -/
def entsK (l : List Fnd) (root : Nat → Nat) (n : Nat) : List Ent := (rootsK root n).map fun r => entK l root r n
abbrev entsF (l : List Fnd) (gap : Int) : List Ent := entsK l (rootS l gap) l.length
theorem rootsK_succ (root : Nat → Nat) (n : Nat) : rootsK root (n + 1) = rootsK root n ++ if root n = n then [n] else [] := by
  unfold rootsK
  rw [List.range_succ, List.filter_append]
  congr 1
  by_cases h : root n = n <;> simp [h]
theorem rootsK_lt {root : Nat → Nat} {n r : Nat} (h : r ∈ rootsK root n) : r < n ∧ root r = r := by
  unfold rootsK at h
  rw [List.mem_filter, List.mem_range] at h
  exact ⟨h.1, by simpa using h.2⟩
theorem rootsK_asc (root : Nat → Nat) (n : Nat) : (rootsK root n).Pairwise (· < ·) := (List.pairwise_lt_range).filter _
theorem entK_none {l : List Fnd} {root : Nat → Nat} (hle : ∀ i, root i ≤ i) {r : Nat} : ∀ n, n ≤ r → entK l root r n = ⟨(r : Nat), [], [], []⟩
  | 0, _ => rfl
  | n + 1, h => by
    unfold entK
    have := hle n
    rw [entK_none hle n (by omega)]
    split
    · rfl
    · rw [if_neg (by omega)]
theorem entK_yes {l : List Fnd} {root : Nat → Nat} {r n : Nat} {f : Fnd} (hf : l[n]? = some f) (h : root n = r) : entK l root r (n + 1) = entAdd (entK l root r n) f (n : Nat) := by
  show (match l[n]? with | none => _ | some f => _) = _
  rw [hf]; exact if_pos h
theorem entK_no {l : List Fnd} {root : Nat → Nat} {r n : Nat} (h : ¬ root n = r) : entK l root r (n + 1) = entK l root r n := by
  show (match l[n]? with | none => _ | some f => _) = _
  split
  · rfl
  · exact if_neg h
theorem ent_num (l : List Fnd) (root : Nat → Nat) (r : Nat) : ∀ n, (entK l root r n).num = (r : Nat)
  | 0 => rfl
  | n + 1 => by
    unfold entK
    split
    · exact ent_num l root r n
    · split
      · exact ent_num l root r n
      · exact ent_num l root r n
theorem lt_of_atX {α : Type} {l : List α} {k : Nat} {x : α} (h : l[k]? = some x) : k < l.length := by
  rcases Nat.lt_or_ge k l.length with h' | h'
  · exact h'
  · rw [List.getElem?_eq_none h'] at h; cases h
/-- What the next finding makes of the entities: a new one perhaps, and then one more finding of one. -/
theorem entsK_succ {l : List Fnd} {root : Nat → Nat} (hle : ∀ i, root i ≤ i) {n : Nat} {f : Fnd} (hf : l[n]? = some f) {k : Nat} (hk : (rootsK root (n + 1))[k]? = some (root n)) :
    entsK l root (n + 1) = (entsK l root n ++ if root n = n then [(⟨(n : Nat), [], [], []⟩ : Ent)] else []).set k (entAdd (entK l root (root n) n) f (n : Nat)) := by
  have e1 : (entsK l root n ++ if root n = n then [(⟨(n : Nat), [], [], []⟩ : Ent)] else []) = (rootsK root (n + 1)).map fun r => entK l root r n := by
    rw [rootsK_succ, List.map_append]
    unfold entsK
    congr 1
    split
    · rw [List.map_singleton, entK_none hle n (Nat.le_refl _)]
    · rfl
  rw [e1]
  unfold entsK
  refine List.ext_getElem? fun j => ?_
  rw [List.getElem?_map, List.getElem?_set]
  have hkl := lt_of_atX hk
  by_cases hj : k = j
  · subst hj
    rw [if_pos rfl, List.length_map, if_pos hkl, hk]
    exact congrArg some (entK_yes hf rfl)
  · rw [if_neg hj, List.getElem?_map]
    cases hr : (rootsK root (n + 1))[j]? with
    | none => rfl
    | some r =>
      refine congrArg some (entK_no fun e => ?_)
      subst e
      have hp := rootsK_asc root (n + 1)
      have hjl := lt_of_atX hr
      rw [List.pairwise_iff_getElem] at hp
      rw [List.getElem?_eq_getElem hkl] at hk
      rw [List.getElem?_eq_getElem hjl] at hr
      simp only [Option.some.injEq] at hk hr
      rcases Nat.lt_or_gt_of_ne hj with h | h
      · have := hp k j hkl hjl h; omega
      · have := hp j k hjl hkl h; omega

end Go.Proofs.Ytgdlhajfajddiaa
namespace Cp
open Go Go.RowKit Go.Great
section
variable {P : Program} {n : Nat} {E : Env} {M0 : Av} {w0 : World} {S : Nat → Prop} {rs : List Res} {ε : Type} {res : ε → List Res}
def tab (res : ε → List Res) (es : List ε) : List Res := es.flatMap res
theorem tab_at : ∀ {es : List ε} {k : Nat} {x : ε}, es[k]? = some x → (tab res es).Perm (res x ++ tab res (es.eraseIdx k))
  | [], _, _, h => by simp at h
  | a :: es, 0, x, h => by
    simp only [List.getElem?_cons_zero, Option.some.injEq] at h
    subst h
    exact List.Perm.refl _
  | a :: es, k + 1, x, h => by
    have ih := tab_at (es := es) (k := k) (x := x) (by simpa using h)
    show (res a ++ tab res es).Perm (res x ++ (res a ++ tab res (es.eraseIdx k)))
    refine (ih.append_left (res a)).trans ?_
    rw [← List.append_assoc, ← List.append_assoc]
    exact List.perm_append_comm.append_right _
theorem tab_set : ∀ {es : List ε} {k : Nat} (x : ε), k < es.length → (res x ++ tab res (es.eraseIdx k)).Perm (tab res (es.set k x))
  | [], _, _, h => absurd h (Nat.not_lt_zero _)
  | a :: es, 0, x, _ => List.Perm.refl _
  | a :: es, k + 1, x, h => by
    have ih := tab_set (es := es) (k := k) x (by simpa using h)
    show (res x ++ (res a ++ tab res (es.eraseIdx k))).Perm (res a ++ tab res (es.set k x))
    refine List.Perm.trans ?_ (ih.append_left (res a))
    rw [← List.append_assoc, ← List.append_assoc]
    exact List.perm_append_comm.append_right _
theorem tab_snoc (es : List ε) (x : ε) : tab res (es ++ [x]) = tab res es ++ res x := by unfold tab; simp
theorem perm_front {a b c : List Res} (h : b.Perm c) : (a ++ b).Perm (a ++ c) := h.append_left a
theorem St.perm {rs' : List Res} (hp : rs.Perm rs') {a : Act} {w : World} (h : St n E (Hp M0 w0 S rs) a w) : St n E (Hp M0 w0 S rs') a w := by
  obtain ⟨M, h1, h2, h3, h4⟩ := h
  exact ⟨M, h1, h2, h3, HpH.perm hp h4⟩
/-- The resources of the k-th are brought to the front. -/
theorem Tr.focus {Q : Exit → Act → World → Prop} {c : Code} (heads : List Res) {es : List ε} {k : Nat} {x : ε} (hx : es[k]? = some x) (hrs : rs = heads ++ tab res es) (kk : Tr P n E (Hp M0 w0 S (res x ++ (heads ++ tab res (es.eraseIdx k)))) c Q) : Tr P n E (Hp M0 w0 S rs) c Q :=
  Tr.conv (fun _ _ hs => hs.perm (by
    subst hrs
    refine (perm_front (tab_at hx)).trans ?_
    rw [← List.append_assoc, ← List.append_assoc]
    exact List.perm_append_comm.append_right _)) kk
theorem unfocus_perm (heads : List Res) {es : List ε} {k : Nat} (x : ε) (hk : k < es.length) (hrs : rs = res x ++ (heads ++ tab res (es.eraseIdx k))) : rs.Perm (heads ++ tab res (es.set k x)) := by
  subst hrs
  refine List.Perm.trans ?_ (perm_front (tab_set x hk))
  rw [← List.append_assoc, ← List.append_assoc]
  exact List.perm_append_comm.append_right _
theorem Fin.unfocus {Q : Exit → Act → World → Prop} {e : Exit} (heads : List Res) {es : List ε} {k : Nat} (x : ε) (hk : k < es.length) (hrs : rs = res x ++ (heads ++ tab res (es.eraseIdx k))) (kk : Fin n E (Hp M0 w0 S (heads ++ tab res (es.set k x))) Q e) : Fin n E (Hp M0 w0 S rs) Q e :=
  Fin.conv (fun _ _ hs => hs.perm (unfocus_perm heads x hk hrs)) kk
theorem Tr.unfocus {Q : Exit → Act → World → Prop} {c : Code} (heads : List Res) {es : List ε} {k : Nat} (x : ε) (hk : k < es.length) (hrs : rs = res x ++ (heads ++ tab res (es.eraseIdx k))) (kk : Tr P n E (Hp M0 w0 S (heads ++ tab res (es.set k x))) c Q) : Tr P n E (Hp M0 w0 S rs) c Q :=
  Tr.conv (fun _ _ hs => hs.perm (unfocus_perm heads x hk hrs)) kk
theorem cells_fld {β : Type} {f : β → List Pr} {l : List β} {qs : List Pr} {sz : Nat} (hf : ∀ x, (f x).length = sz) {i j : Nat} {x : β} (h : l[i]? = some x) (hj : j < sz) : ((l.map f).flatten ++ qs)[i * sz + j]? = (f x)[j]? := by
  have h1 := cells_at (qs := qs) hf h
  rw [← List.getElem?_drop]
  rw [← h1, List.getElem?_take, if_pos hj]
theorem cells_fset {β : Type} {f : β → List Pr} {l : List β} {qs : List Pr} {sz : Nat} (hf : ∀ x, (f x).length = sz) {i j : Nat} {x y : β} {p : Pr} (h : l[i]? = some x) (hj : j < sz) (hy : (f x).set j p = f y) :
    ((l.map f).flatten ++ qs).take (i * sz + j) ++ [p] ++ ((l.map f).flatten ++ qs).drop (i * sz + j + 1) = ((l.set i y).map f).flatten ++ qs := by
  have hil : i < l.length := by rcases Nat.lt_or_ge i l.length with h' | h'; exact h'; rw [List.getElem?_eq_none h'] at h; cases h
  have h1 := cells_set (f := f) (qs := qs) (x := y) hf hil
  have h2 := cells_at (qs := qs) hf h
  have hfl := hf x
  have hfy := hf y
  rw [← h1]
  generalize hz : (l.map f).flatten ++ qs = z at *
  have hzl : i * sz + sz ≤ z.length := by
    have := congrArg List.length h2
    rw [List.length_take, List.length_drop, hfl] at this
    omega
  have e1 : z.take (i * sz + j) ++ [p] ++ z.drop (i * sz + j + 1) = z.set (i * sz + j) p := by
    rw [List.set_eq_take_append_cons_drop, if_pos (by omega)]; simp
  rw [e1]
  refine List.ext_getElem? fun m => ?_
  have hz2 : ∀ q, q < sz → z[i * sz + q]? = (f x)[q]? := fun q hq => by rw [← h2, List.getElem?_take, if_pos hq, List.getElem?_drop]
  have htl : (z.take (i * sz)).length = i * sz := by rw [List.length_take]; omega
  rw [List.append_assoc]
  rcases Nat.lt_or_ge m (i * sz) with hm | hm
  · rw [List.getElem?_set_ne (by omega), List.getElem?_append_left (by omega), List.getElem?_take, if_pos hm]
  · obtain ⟨q, rfl⟩ : ∃ q, m = i * sz + q := ⟨m - i * sz, by omega⟩
    rw [List.getElem?_append_right (by omega), htl, Nat.add_sub_cancel_left]
    rcases Nat.lt_or_ge q sz with hq | hq
    · rw [List.getElem?_append_left (by omega), ← hy]
      by_cases hqj : q = j
      · subst hqj
        rw [List.getElem?_set_self (by omega), List.getElem?_set_self (by omega)]
      · rw [List.getElem?_set_ne (by omega), List.getElem?_set_ne (by omega), hz2 q hq]
    · rw [List.getElem?_append_right (by omega), hfy, List.getElem?_drop, List.getElem?_set_ne (by omega)]
      congr 1; omega
/-- A slice of ours that has elements lies somewhere. -/
theorem Tr.openG {Q : Exit → Act → World → Prop} {c : Code} {e : TypeId} {sz : Nat} {rows : List (List Pr)} {v : Value} (j : Nat) (hj : rs[j]? = some (ownRes e sz rows v)) (hne : rows ≠ [])
    (k : ∀ (b cap : Nat) (sp : List Value), v = .slice (some ⟨b, 0, none⟩) rows.length cap → rows.length ≤ cap → cap ≤ maxLen → sp.length = (cap - rows.length) * sz → Tr P n E (Hp M0 w0 S (rs.set j (cellsRes true b e (rows.flatten ++ sp.map is)))) c Q) : Tr P n E (Hp M0 w0 S rs) c Q := by
  intro a w hs
  obtain ⟨M, h1, h2, h3, h4⟩ := hs
  have h4 : HpH M0 w0 S rs M w := h4
  rcases (h4.hold _ (List.mem_of_getElem? hj)).1 with ⟨h5, _⟩ | ⟨b, cap, sp, rfl, h5, h6, h7, h8⟩
  · exact absurd h5 hne
  · exact k b cap sp rfl h5 h6 h7 a w ⟨M, h1, h2, h3, h4.swap1 hj rfl rfl h8⟩
theorem St.closeG {e : TypeId} {sz b cap m : Nat} {rows : List (List Pr)} {sp : List Value} (j : Nat) (hj : rs[j]? = some (cellsRes true b e (rows.flatten ++ sp.map is))) (hm : rows.length = m) (h1 : m ≤ cap) (h2 : cap ≤ maxLen) (h3 : sp.length = (cap - m) * sz) {a : Act} {w : World} (h : St n E (Hp M0 w0 S rs) a w) : St n E (Hp M0 w0 S (rs.set j (ownRes e sz rows (.slice (some ⟨b, 0, none⟩) m cap)))) a w := by
  subst hm
  obtain ⟨M, g1, g2, g3, g4⟩ := h
  have g4 : HpH M0 w0 S rs M w := g4
  exact ⟨M, g1, g2, g3, g4.swap1 hj rfl rfl (.inr ⟨b, cap, sp, rfl, h1, h2, h3, (g4.hold _ (List.mem_of_getElem? hj)).1⟩)⟩
theorem Fin.closeG {Q : Exit → Act → World → Prop} {x : Exit} {e : TypeId} {sz b cap m : Nat} {rows : List (List Pr)} {sp : List Value} (j : Nat) (hj : rs[j]? = some (cellsRes true b e (rows.flatten ++ sp.map is))) (hm : rows.length = m) (h1 : m ≤ cap) (h2 : cap ≤ maxLen) (h3 : sp.length = (cap - m) * sz)
    (k : Fin n E (Hp M0 w0 S (rs.set j (ownRes e sz rows (.slice (some ⟨b, 0, none⟩) m cap)))) Q x) : Fin n E (Hp M0 w0 S rs) Q x := Fin.conv (fun _ _ hs => hs.closeG j hj hm h1 h2 h3) k
end
end Cp
namespace Cp
open Go Go.RowKit Go.Great
section
variable {P : Program} {n : Nat} {E : Env} {M0 : Av} {w0 : World} {S : Nat → Prop} {rs : List Res} {o : Oper}
theorem run_copy_rows {w : World} {dT sT ty e : TypeId} {g off dLen dCap sLen sCap sz m : Nat} {a : Addr} {cur : Array Value} {t : TypeId} {cs : List Value} (hu : P.underlying dT = some (.slice e)) (hz : sizeB P e = some sz)
    (hg : w.heap[g]? = some (.cells cur t (0, 0))) (hm : m = Nat.min sLen dLen) (hn : cs.length = m * sz) (hsrc : ∀ j v, cs[j]? = some v → w.cell? (a.add j) = some v) (hfit : off + cs.length ≤ cur.size) (h1 : ∀ v ∈ cs, v.oneCell' = true) :
    (Builtin.copy_ #[dT, sT] ty #[.slice (some ⟨g, off, none⟩) dLen dCap, .slice (some a) sLen sCap]).run P w = .ok (goInt m) (w.setRow g (cur.toList.take off ++ cs ++ cur.toList.drop (off + cs.length)).toArray) := by
  have hl := run_loadCells_list (P := P) w a cs hsrc
  have hst := run_storeCells_at P g off t cs 0 cur w hg (by simpa using hfit) h1
  unfold sizeB at hz
  cases hq : P.info? e with
  | none => rw [hq] at hz; cases hz
  | some i =>
    have hi : i.size = sz := by simpa [hq] using hz
    rw [hn] at hl
    simp [Builtin.copy_, run_underlying hu, Builtin.lenOf, Builtin.firstCells, Go.sizeOf, typeInfo, hq, hi, ← hm, hl, hst]
/-- copy from a slice that is read. -/
theorem ef_copyS {dT sT e : TypeId} {x y : Operand} {j : Nat} {new : Bool} {b off m cap sz d : Nat} {T : TypeId} {ps ps' : List Pr} {rows : List (List Pr)} (hg : o.guard = none) (hd : o.dst = some d) (ho : o.op = .call { callee := .builtin .copy, args := #[x, y], argTypes := #[dT, sT] })
    (ht : P.underlying dT = some (.slice e)) (hz : sizeB P e = some sz) (hsz : 0 < sz) (hx : VL E x (is (.slice (some ⟨b, off, none⟩) m cap))) (hy : VL E y (slice sz rows)) (hpos : 0 < rows.length) (hm : rows.length ≤ m) (hl : off + rows.length * sz ≤ ps.length)
    (hps : ps.take off ++ rows.flatten ++ ps.drop (off + rows.length * sz) = ps') : OpEf P M0 w0 S n j (SR.c (cellsRes new b T ps)) (SR.c (cellsRes new b T ps')) o E (int (rows.length : Nat)) := by
  refine ⟨hg, fun M w a rs hszn he hI hj => ?_⟩
  have h1 : a.eval x = _ := hx.ev he (by simp [ho, Op.operands, Call.operands])
  have h2 := hy.ev he (by simp [ho, Op.operands, Call.operands])
  obtain ⟨⟨_, cs, h4, h5, h6⟩, _⟩ := hI.hold _ (List.mem_of_getElem? hj)
  have h5l := h5.length
  have h2' := h2
  obtain ⟨A', c', hv, hmc, hcm', hA', hrows'⟩ := h2
  obtain ⟨ad', rfl⟩ : ∃ ad', A' = some ad' := by
    obtain ⟨_, b, hb, _⟩ := hrows' 0 _ (List.getElem?_eq_getElem hpos)
    exact ⟨b, hb⟩
  rw [hv] at h2'
  obtain ⟨news, hfl, hcell⟩ := slice_flat hsz h2'
  have hnl := hfl.1
  have hrun := run_copy_rows (P := P) (w := w) (sT := sT) (ty := o.type) (g := b) (off := off) (dLen := m) (dCap := cap) (sLen := rows.length) (sCap := c') (m := rows.length) (a := ad') (cur := cs.toArray) (t := T) (cs := news) ht hz h4 (Nat.min_eq_left hm).symm hnl (fun k u hk => (hcell k u hk).1) (by simp [hnl]; omega) hfl.2.1
  have hrun2 : (execOp a.eval o).run P w = .ok (.value (goInt rows.length)) (w.setRow b (cs.take off ++ news ++ cs.drop (off + news.length)).toArray) := by
    simp [execOp, ho, h1, hv, resolve, invoke, builtin, hrun]
  rw [hrun2]
  obtain ⟨h7, h8⟩ := HpH.write (qs := ps') (cs := cs.take off ++ news ++ cs.drop (off + news.length)) hI hj (by rw [← hps, hnl]; exact ((h5.take off).app (hfl.hl hsz)).app (h5.drop _))
    (fun c hc => by
      simp only [List.mem_append] at hc
      rcases hc with (hc | hc) | hc
      · exact h6 c (List.mem_of_mem_take hc)
      · exact hfl.2.1 c hc
      · exact h6 c (List.mem_of_mem_drop hc))
  exact ⟨M, rfl, h8, h7⟩
/-- copy within one block of ours: m rows from off2 to off. -/
theorem ef_copyB {dT sT e : TypeId} {x y : Operand} {j : Nat} {new : Bool} {b off off2 m dl cap cap2 sz d : Nat} {T : TypeId} {ps ps' : List Pr} (hg : o.guard = none) (hd : o.dst = some d) (ho : o.op = .call { callee := .builtin .copy, args := #[x, y], argTypes := #[dT, sT] })
    (ht : P.underlying dT = some (.slice e)) (hz : sizeB P e = some sz) (hx : VL E x (is (.slice (some ⟨b, off, none⟩) dl cap))) {sl : Nat} (hy : VL E y (is (.slice (some ⟨b, off2, none⟩) sl cap2))) (hm : m = Nat.min sl dl) (hl : off + m * sz ≤ ps.length) (hl2 : off2 + m * sz ≤ ps.length)
    (hps : ps.take off ++ (ps.drop off2).take (m * sz) ++ ps.drop (off + m * sz) = ps') : OpEf P M0 w0 S n j (SR.c (cellsRes new b T ps)) (SR.c (cellsRes new b T ps')) o E (int (m : Nat)) := by
  refine ⟨hg, fun M w a rs hszn he hI hj => ?_⟩
  have h1 : a.eval x = _ := hx.ev he (by simp [ho, Op.operands, Call.operands])
  have h2 : a.eval y = _ := hy.ev he (by simp [ho, Op.operands, Call.operands])
  obtain ⟨⟨_, cs, h4, h5, h6⟩, _⟩ := hI.hold _ (List.mem_of_getElem? hj)
  have h5l := h5.length
  have hnl : ((cs.drop off2).take (m * sz)).length = m * sz := by rw [List.length_take, List.length_drop]; omega
  have hrun := run_copy_rows (P := P) (w := w) (sT := sT) (ty := o.type) (g := b) (off := off) (dLen := dl) (dCap := cap) (sLen := sl) (sCap := cap2) (m := m) (a := ⟨b, off2, none⟩) (cur := cs.toArray) (t := T) (cs := (cs.drop off2).take (m * sz)) ht hz h4 hm hnl (fun k u hk => by
      rw [addr_add]
      rw [List.getElem?_take] at hk
      split at hk
      · rw [List.getElem?_drop] at hk; simp [World.cell?, h4, hk]
      · cases hk) (by simp [hnl]; omega) (fun v hv => h6 v (List.mem_of_mem_drop (List.mem_of_mem_take hv)))
  have hrun2 : (execOp a.eval o).run P w = .ok (.value (goInt m)) (w.setRow b (cs.take off ++ (cs.drop off2).take (m * sz) ++ cs.drop (off + ((cs.drop off2).take (m * sz)).length)).toArray) := by
    simp [execOp, ho, h1, h2, resolve, invoke, builtin, hrun]
  rw [hrun2]
  obtain ⟨h7, h8⟩ := HpH.write (qs := ps') (cs := cs.take off ++ (cs.drop off2).take (m * sz) ++ cs.drop (off + ((cs.drop off2).take (m * sz)).length)) hI hj (by rw [← hps, hnl]; exact ((h5.take off).app ((h5.drop off2).take _)).app (h5.drop _))
    (fun c hc => by
      simp only [List.mem_append] at hc
      rcases hc with (hc | hc) | hc
      · exact h6 c (List.mem_of_mem_take hc)
      · exact h6 c (List.mem_of_mem_drop (List.mem_of_mem_take hc))
      · exact h6 c (List.mem_of_mem_drop hc))
  exact ⟨M, rfl, h8, h7⟩
theorem run_overlaps_own {w : World} {tS tR e : TypeId} (ht : P.underlying tS = some (.slice e)) {size : Nat} (hz : ∀ w, (Go.sizeOf e).run P w = .ok size w) {a b : Addr} {la ca lb cb : Nat} (hne : a.block ≠ b.block) {tA tB : TypeId} {kA kB : Nat}
    (hsa : w.shape? a.block = some (tA, kA + 1)) (hsb : w.shape? b.block = some (tB, kB + 1)) (hfb : ∀ c : Addr, c.block = b.block → w.frozen? c = false) :
    (Extern.SlicesOverlaps.overlaps #[tS, tS] #[tR] #[.slice (some a) la ca, .slice (some b) lb cb]).run P w = .ok (.bool false) w := by
  have hnb : (a.block != b.block) = true := by simpa using hne
  have hnb' : (a.block == b.block) = false := by simpa using hne
  have hf1 := hfb b rfl
  have hf2 := hfb { block := b.block, off := kB + 1 } rfl
  change Sem.run P (α := Value) (do
    let some t := (#[tS, tS] : Array TypeId)[0]? | stuck "slices.overlaps: no parameter types"
    let .slice elem ← underlying t | stuck "slices.overlaps: slice type expected"
    let size ← sizeOf elem
    match (some a : Option Addr), (some b : Option Addr) with
    | some a, some b =>
      if la = 0 ∨ lb = 0 ∨ size = 0 then pure (Value.bool false)
      else if a.block != b.block && (← frozen a) && (← frozen b) then unsupported .addressObserved
      else do
        if a.block != b.block then do
          noView a; noView b
          if ← mayBeOne a b then return Value.bool ((← choose (.extern "sameAddr.stringBytes" 2)) == 1)
        pure (Value.bool (a.block == b.block && a.off < b.off + lb * size && b.off < a.off + la * size))
    | _, _ => pure (Value.bool false)) w = _
  by_cases h0 : la = 0 ∨ lb = 0 ∨ size = 0
  · simp [run_underlying ht, hz, h0]
  · cases hfa : w.frozen? a <;> cases hfa2 : w.frozen? { block := a.block, off := kA + 1 } <;>
      simp [run_underlying ht, hz, h0, hnb, hnb', frozen, noView, viewAt, mayBeOne, stringish, shape, Sem.run, hsa, hsb, hfa, hfa2, hf1, hf2]
theorem cell_shape {w : World} {a : Addr} {v : Value} (h : w.cell? a = some v) : ∃ t k, w.shape? a.block = some (t, k + 1) := by
  unfold World.cell? at h
  unfold World.shape?
  split at h
  · rename_i c t mk hh
    have hc : c[a.off]? = some v := by
      split at h
      · cases h
      · exact h
    have : a.off < c.size := by
      rcases Nat.lt_or_ge a.off c.size with h' | h'
      · exact h'
      · rw [Array.getElem?_eq_none h'] at hc; cases hc
    exact ⟨t, c.size - 1, by show some (t, c.size) = _; congr 2; omega⟩
  · cases h
theorem rd_overlaps {f : FuncId} {fn : Func} {x y : Operand} {ts : Array TypeId} {tS tR e : TypeId} {rows : List (List Pr)} {j : Nat} {new : Bool} {b off m cap sz : Nat} {T : TypeId} {ps : List Pr} (ho : o.op = .call { callee := .value (.func f), args := #[x, y], argTypes := ts }) (hf : P.funcs[f]? = some fn) (hname : (fn.name == "runtime.NumGoroutine") = false)
    (hb : fn.body.isNone = true) (hn : Extern.findNext fn = none) (hex : Extern.find fn = some (Extern.SlicesOverlaps.overlaps #[tS, tS] #[tR])) (ht : P.underlying tS = some (.slice e)) (hz : sizeB P e = some sz) (hsz : 0 < sz) (hx : VL E x (slice sz rows)) (hpos : 0 < rows.length) (hy : VL E y (is (.slice (some ⟨b, off, none⟩) m cap))) (hps : 0 < ps.length) :
    OpRd P M0 w0 S j (SR.c (cellsRes new b T ps)) o E (bool false) := by
  intro M w a rs he hI hj
  have h1 := hx.ev he (by simp [ho, Op.operands, Call.operands])
  have h2 : a.eval y = _ := hy.ev he (by simp [ho, Op.operands, Call.operands])
  obtain ⟨⟨hM, cs, h4, h5, h6⟩, _⟩ := hI.hold _ (List.mem_of_getElem? hj)
  have h5l := h5.length
  obtain ⟨A', c', hv, hmc, hcm', hA', hrows'⟩ := h1
  obtain ⟨hlen, ad', rfl, hrow⟩ := hrows' 0 _ (List.getElem?_eq_getElem hpos)
  obtain ⟨p0, hp0⟩ : ∃ p0, rows[0][0]? = some p0 := ⟨_, List.getElem?_eq_getElem (by rw [hlen]; exact hsz)⟩
  obtain ⟨u, hu, hnm, _⟩ := hrow 0 p0 hp0
  obtain ⟨tA, kA, hsa⟩ := cell_shape hu
  rw [add_block] at hsa
  have hne : ad'.block ≠ b := fun e1 => hnm (by rw [e1]; exact hM _)
  have hsb : w.shape? b = some (T, (cs.length - 1) + 1) := by unfold World.shape?; rw [h4]; show some (T, cs.toArray.size) = _; congr 2; simp; omega
  have hfb : ∀ c : Addr, c.block = b → w.frozen? c = false := fun c hc => by unfold World.frozen?; rw [hc, h4]; simp
  have hzr : ∀ w, (Go.sizeOf e).run P w = .ok sz w := fun w => run_size hz w
  have hov := run_overlaps_own (P := P) (w := w) (tR := tR) ht hzr (a := ad') (b := ⟨b, off, none⟩) (la := rows.length) (ca := c') (lb := m) (cb := cap) hne hsa hsb hfb
  have h3 : a.eval (.func f) = .func (.func f) #[] #[] := rfl
  have hrun : (execOp a.eval o).run P w = (callFunc f #[a.eval x, a.eval y]).run P w := by simp [execOp, ho, resolve, Deferred.ofValue, invoke, h3]
  rw [hrun, hv, h2, run_callFunc_extern hf hname hb hn hex, hov]
  exact ⟨rfl, Below.refl _ _⟩
/-- Elements of which the first cells are known. -/
def partRes (e : TypeId) (sz m : Nat) (ps : List Pr) (v : Value) : Res where
  blk := match v with | .slice (some a) _ _ => some a.block | _ => none
  new := true
  h M w := ∃ (b cap : Nat) (sp : List Value), v = .slice (some ⟨b, 0, none⟩) m cap ∧ m ≤ cap ∧ cap ≤ maxLen ∧ ps.length + sp.length = cap * sz ∧ (cellsRes true b e (ps ++ sp.map is)).h M w
  st M w M' w' he hk h := by
    obtain ⟨b, cap, sp, rfl, h1, h2, h3, h4⟩ := h
    exact ⟨b, cap, sp, rfl, h1, h2, h3, (cellsRes true b e (ps ++ sp.map is)).st M w M' w' he hk h4⟩
theorem app_zeros {M : Av} {w : World} {t tn ty e : TypeId} {sz bytes : Nat} {zs : List Value} {i k cap b : Nat} {j j2 : Nat} {kn : IntKind} {T : TypeId} {ps : List Pr} (ht : P.underlying t = some (.slice e)) (htn : P.underlying tn = some (.int kn)) (hz : sizeB P e = some sz) (hby : bytesB P e = some bytes) (hze : zeroB P e = some zs) (hzl : zs.length = sz) (hone : zs.all (·.oneCell') = true) (hsz : 0 < sz)
    (h : HpH M0 w0 S rs M w) (hj : rs[j]? = some noRes) (hj2 : rs[j2]? = some (cellsRes true b T ps)) (hil : i * sz ≤ ps.length) (hk : 0 < k) (hg : cap < i + k) (hmax : i + k ≤ maxLen) (hfit : (i + k) * bytes ≤ 140737488355328) :
    ∃ v' w' M', (Builtin.append_ #[t, tn] ty #[.slice (some ⟨b, 0, none⟩) i cap, .int .i64 (k : Nat)]).run P w = .ok v' w' ∧ (lens (i + k)).h M' w' v' ∧ Ext M w M' w' ∧ HpH M0 w0 S (rs.set j (partRes e sz (i + k) (ps.take (i * sz)) v')) M' w' := by
  obtain ⟨⟨_, cs0, g4, g5, g6⟩, _⟩ := h.hold _ (List.mem_of_getElem? hj2)
  have g5l := g5.length
  unfold sizeB at hz
  unfold bytesB at hby
  unfold zeroB at hze
  cases hi : P.info? e with
  | none => rw [hi] at hz; cases hz
  | some ii =>
    rw [hi] at hz hby hze
    simp only [Option.map_some, Option.some.injEq, Option.map_eq_some_iff] at hz hby hze
    obtain ⟨z, hzz, hze⟩ := hze
    have hzc : z.cells.size = sz := by rw [← hzl, ← hze]; simp
    have hol : (cs0.take (i * sz)).length = i * sz := by rw [List.length_take]; omega
    have hold : (Builtin.firstCells ii.size i (.slice (some ⟨b, 0, none⟩) i cap)).run P w.drew = .ok (cs0.take (i * sz)).toArray w.drew := by
      have := run_loadCells_list (P := P) w.drew ⟨b, 0, none⟩ (cs0.take (i * sz)) (fun q u hq => by
        rw [addr_add]
        rw [List.getElem?_take] at hq
        split at hq
        · have hh : w.drew.heap[b]? = some (.cells cs0.toArray T (0, 0)) := g4
          simp [World.cell?, hh, hq]
        · cases hq)
      rw [hol] at this
      simp only [Builtin.firstCells, hz]
      rw [Nat.mul_comm] at this ⊢
      first | exact this | (simp; exact this)
    have hrun := Lib.run_append_grow_zeros (P := P) w t tn ty e ii z .i64 kn ht htn hi hzz (some ⟨b, 0, none⟩) i cap (cs0.take (i * sz)) hold k hk (by rw [hz]; exact hsz) hg (by unfold maxLen at hmax; omega) (by rw [hby]; have := Nat.mul_le_mul_right bytes (show k ≤ i + k by omega); omega) (by rw [hby]; exact growslice_fits hg hfit)
    generalize hcap : grownCap w (i + k) cap e = cap' at hrun
    have hge : i + k ≤ cap' := by rw [← hcap]; exact grownCap_ge _ _ _ _
    have hle : cap' ≤ maxLen := by rw [← hcap]; exact grownCap_le_maxLen _ _ _ _ hmax
    generalize hzc1 : Builtin.zeroCells z.cells k = z1 at hrun
    generalize hzc2 : Builtin.zeroCells z.cells (cap' - (i + k)) = z2 at hrun
    have hz1 : z1.size = k * sz := by rw [← hzc1, size_zeroCells, hzc]
    have hz2 : z2.size = (cap' - (i + k)) * sz := by rw [← hzc2, size_zeroCells, hzc]
    have ho1 : ∀ c ∈ z1.toList, c.oneCell' = true := by rw [← hzc1]; exact zeroCells_one hze hone
    have ho2 : ∀ c ∈ z2.toList, c.oneCell' = true := by rw [← hzc2]; exact zeroCells_one hze hone
    generalize hcs : ((cs0.take (i * sz)).toArray ++ z1 ++ z2) = cs at hrun
    have hcsl : cs.toList = cs0.take (i * sz) ++ (z1.toList ++ z2.toList) := by rw [← hcs]; simp
    have hone' : ∀ c ∈ cs.toList, c.oneCell' = true := by
      intro c hc
      rw [hcsl] at hc
      simp only [List.mem_append] at hc
      rcases hc with hc | hc | hc
      · exact g6 c (List.mem_of_mem_take hc)
      · exact ho1 c hc
      · exact ho2 c hc
    have hb : Below w.heap.size w (w.drew.alloc (.cells cs e)) := ((Below.refl _ _).drew).alloc (Nat.le_refl _) _
    have h2 := Ext.below (M := M) hb
    have hext : Ext M w (fun b o => M b o ∨ b = w.heap.size) (w.drew.alloc (.cells cs e)) := by
      refine ⟨h2.size, fun a v hc hm => ⟨fun hx => ?_, (h2.keep a v hc hm).2⟩, fun b o ho hp hm => ⟨fun hx => ?_, (h2.obj b o ho hp hm).2⟩⟩
      · rcases hx with hx | hx
        · exact hm hx
        · have := cell_lt hc; omega
      · rcases hx with hx | hx
        · exact hm hx
        · subst hx; simp at ho
    have hs1 : (w.drew.alloc (.cells cs e)).heap.size = w.heap.size + 1 := by simp
    refine ⟨_, _, fun b o => M b o ∨ b = w.heap.size, hrun, ⟨_, _, rfl⟩, hext, ?_⟩
    refine h.replace hj hext hb.os hb.tape hb.output (fun k hk _ => hb.block k hk) rfl (fun b o hm _ => .inl hm) (fun b o hx => ?_) ?_ rfl (fun b hbk => ?_)
    · rcases hx with hx | hx
      · have := h.bd _ _ hx; omega
      · omega
    · refine ⟨w.heap.size, cap', z1.toList ++ z2.toList, rfl, hge, hle, ?_, fun o => .inr rfl, cs.toList, ?_, ?_, hone'⟩
      · rw [List.length_take, Nat.min_eq_left hil, List.length_append, Array.length_toList, Array.length_toList, hz1, hz2, ← Nat.add_mul, ← Nat.add_mul]; congr 1; omega
      · have hh : (w.drew.alloc (.cells cs e)).heap[w.heap.size]? = some (.cells cs e (0, 0)) := heap_alloc_new w.drew _
        rw [hh]
      · rw [hcsl]; exact ((g5.take _).st hext).app (hl_is _ _ _)
    · have hbk' : some w.heap.size = some b := hbk
      injection hbk' with e1
      subst e1
      exact ⟨by rw [hs1]; omega, .inr (Nat.le_refl _)⟩
theorem TO.appzs {Q : Exit → Act → World → Prop} {ops : Array Oper} {r : List Oper} {t tn e : TypeId} {x y : Operand} (j j2 : Nat) {sz bytes d : Nat} {zs : List Value} {i k cap b : Nat} {kk : Int} {kn : IntKind} {T : TypeId} {ps : List Pr} (hj : rs[j]? = some noRes) (hj2 : rs[j2]? = some (cellsRes true b T ps)) (hg : o.guard = none) (hd : o.dst = some d) (hn : d < n) (ho : o.op = .call { callee := .builtin .append, args := #[x, y], argTypes := #[t, tn] })
    (ht : P.underlying t = some (.slice e)) (htn : P.underlying tn = some (.int kn)) (hz : sizeB P e = some sz) (hby : bytesB P e = some bytes) (hze : zeroB P e = some zs) (hzl : zs.length = sz) (hone : zs.all (·.oneCell') = true) (hsz : 0 < sz)
    (hx : VL E x (is (.slice (some ⟨b, 0, none⟩) i cap))) (hy : VL E y (int kk)) (hkk : kk = (k : Nat)) (hil : i * sz ≤ ps.length) (hk : 0 < k) (hgr : cap < i + k) (hmax : i + k ≤ maxLen) (hfit : (i + k) * bytes ≤ 140737488355328)
    (kq : ∀ (b2 cap2 : Nat) (sp : List Value), i + k ≤ cap2 → cap2 ≤ maxLen → (ps.take (i * sz)).length + sp.length = cap2 * sz → TO P n ops r ((d, is (.slice (some ⟨b2, 0, none⟩) (i + k) cap2)) :: E) (Hp M0 w0 S (rs.set j (cellsRes true b2 e (ps.take (i * sz) ++ sp.map is)))) Q) : TO P n ops (o :: r) E (Hp M0 w0 S rs) Q :=
  TO.eff hg fun K M w a hszn hdf he hI hK => by
    have hI : HpH M0 w0 S rs M w := hI
    have hef := looks_env (o := o) he
    have h1 : a.eval x = _ := hx.ev hef (by simp [ho, Op.operands, Call.operands])
    have h2 : a.eval y = .int .i64 kk := hy.ev hef (by simp [ho, Op.operands, Call.operands])
    have hjl : j < rs.length := by rcases Nat.lt_or_ge j rs.length with h | h; exact h; rw [List.getElem?_eq_none h] at hj; cases hj
    obtain ⟨v', w', M', hrun, h3, h4, h5⟩ := app_zeros (ty := o.type) ht htn hz hby hze hzl hone hsz hI hj hj2 hil hk hgr hmax hfit
    have hrun2 : (execOp a.eval o).run P w = .ok (.value v') w' := by rw [hkk] at h2; simp [execOp, ho, resolve, invoke, builtin, h1, h2, hrun]
    obtain ⟨b2, cap2, sp, rfl, q1, q2, q3, q4⟩ := (h5.hold _ (List.mem_of_getElem? (List.getElem?_set_self hjl))).1
    have h6 : HpH M0 w0 S (rs.set j (cellsRes true b2 e (ps.take (i * sz) ++ sp.map is))) M' w' := by
      have := h5.swap1 (r' := cellsRes true b2 e (ps.take (i * sz) ++ sp.map is)) (List.getElem?_set_self hjl) rfl rfl q4
      rwa [List.set_set] at this
    have hgv : GivesR P M0 w0 S o a M w (is (.slice (some ⟨b2, 0, none⟩) (i + k) cap2)) j (SR.c (cellsRes true b2 e (ps.take (i * sz) ++ sp.map is))) rs ((execOp a.eval o).run P w) := by
      rw [hrun2]; exact ⟨M', rfl, h4, h6⟩
    refine step_ef hgv fun v w'' M'' hv hxt hI' => hK _ _ _ _ (kq b2 cap2 sp q1 q2 q3) ⟨M'', by rw [put_size]; exact hszn, by rw [put_defers]; exact hdf, ?_, hI'⟩
    intro s q hq
    simp only [List.lookup] at hq
    by_cases hs : s = d
    · subst hs; simp at hq; subst hq; rw [hd, put_same (by rw [hszn]; exact hn)]; exact hv
    · rw [show (s == d) = false by simpa using hs] at hq; rw [hd, put_other hs]; exact q.st _ _ _ _ _ hxt (he s q hq)
end
end Cp
namespace Go.Proofs.Ytgdlhajfajddiaa
open Go Go.RowKit Cp

/-- What an array of parents says: each leads to a lower one of its set, and in the end to the least. -/
structure UF (p : List Int) (R : Nat → Nat) : Prop where
  len : p.length = 400
  rep : RepR R
  par : ∀ x, x < 400 → ∃ y : Nat, p[x]? = some (y : Int) ∧ y ≤ x ∧ R y = R x ∧ (y = x ↔ R x = x)
theorem UF.join {p : List Int} {R : Nat → Nat} (h : UF p R) {i k : Nat} (hi : i < 400) (hk : k < 400) : UF (p.set (max (R i) (R k)) ((min (R i) (R k) : Nat) : Int)) (joinR R i k) := by
  have h1 := h.rep.le i
  have h2 := h.rep.le k
  have h3 := h.rep.idem i
  have h4 := h.rep.idem k
  have hmin : R (min (R i) (R k)) = min (R i) (R k) := by rcases Nat.le_total (R i) (R k) with h1 | h1; rw [Nat.min_eq_left h1]; exact h3; rw [Nat.min_eq_right h1]; exact h4
  have hmax : R (max (R i) (R k)) = max (R i) (R k) := by rcases Nat.le_total (R i) (R k) with h1 | h1; rw [Nat.max_eq_right h1]; exact h4; rw [Nat.max_eq_left h1]; exact h3
  refine ⟨by rw [List.length_set]; exact h.len, joinR_rep h.rep i k, fun x hx => ?_⟩
  by_cases e : x = max (R i) (R k)
  · subst e
    refine ⟨min (R i) (R k), List.getElem?_set_self (by rw [h.len]; omega), by omega, ?_, ?_⟩
    · unfold joinR; rw [hmin, hmax, if_pos rfl]; split <;> rfl
    · unfold joinR; rw [hmax, if_pos rfl]
  · obtain ⟨y, hy, h5, h6, h7⟩ := h.par x hx
    refine ⟨y, by rw [List.getElem?_set_ne (by omega)]; exact hy, h5, by unfold joinR; rw [h6], ?_⟩
    have hle := h.rep.le x
    constructor
    · intro e2
      have hr := h7.1 e2
      unfold joinR; rw [if_neg (by omega)]; exact hr
    · intro e2
      unfold joinR at e2
      by_cases hm : R x = max (R i) (R k)
      · rw [if_pos hm] at e2
        rw [← e2, hmin] at hm
        omega
      · rw [if_neg hm] at e2; exact h7.2 e2
def idsTo (k : Nat) : List Int := (List.range k).map (fun n => ((n : Nat) : Int)) ++ List.replicate (400 - k) 0
theorem idsTo_set {k : Nat} (hk : k < 400) : (idsTo k).set k ((k : Nat) : Int) = idsTo (k + 1) := by
  unfold idsTo
  rw [List.set_append_right _ _ (by simp)]
  simp only [List.length_map, List.length_range, Nat.sub_self]
  rw [show 400 - k = (400 - (k + 1)) + 1 by omega, List.replicate_succ, List.set_cons_zero, List.range_succ, List.map_append, List.append_assoc]; rfl
theorem idsTo_len {k : Nat} (hk : k ≤ 400) : (idsTo k).length = 400 := by unfold idsTo; simp; omega
theorem UF.start : UF (idsTo 400) (fun x => x) :=
  ⟨idsTo_len (Nat.le_refl _), ⟨fun _ => Nat.le_refl _, fun _ => rfl⟩, fun x hx => ⟨x, by unfold idsTo; rw [List.getElem?_append_left (by simpa using hx), List.getElem?_map, List.getElem?_range hx]; rfl, Nat.le_refl _, rfl, by simp⟩⟩
abbrev arr (p : List Int) : List Pr := p.map fun n => int n
theorem arr_at {p : List Int} {i : Nat} {x : Int} (h : p[i]? = some x) : (arr p)[i]? = some (int x) := by rw [List.getElem?_map, h]; rfl
theorem arr_atO {p : List Int} {i : Int} {x : Int} (h : p[i.toNat]? = some x) : (arr p)[0 + i.toNat * 1]? = some (int x) := by rw [Nat.zero_add, Nat.mul_one]; exact arr_at h
theorem arr_set {p : List Int} {i : Nat} {x : Int} (h : i < p.length) : (arr p).take i ++ [int x] ++ (arr p).drop (i + 1) = arr (p.set i x) := by
  unfold arr
  rw [List.map_set, List.set_eq_take_append_cons_drop, if_pos (by simpa using h)]; simp

end Go.Proofs.Ytgdlhajfajddiaa
namespace Go.Proofs.Ytgdlhajfajddiaa
open Go Go.RowKit Cp

end Go.Proofs.Ytgdlhajfajddiaa
namespace Go.Proofs.Ytgdlhajfajddiaa
open Go Go.RowKit Cp

/-- The days of findings that are normal. -/
def DaysIn (l : List Fnd) : Prop := ∀ f ∈ l, 0 ≤ f.day ∧ f.day ≤ 40000
theorem days_at {l : List Fnd} (h : DaysIn l) {i : Nat} {f : Fnd} (hf : l[i]? = some f) : 0 ≤ f.day ∧ f.day ≤ 40000 := h f (List.mem_of_getElem? hf)
theorem skip_yes {f g : Fnd} {gap : Int} (h : g.machine = 0 ∨ ¬ g.host = f.host ∨ gap < dist f g) : skipN f g gap = true := by unfold skipN; simpa using h
theorem skip_no {f g : Fnd} {gap : Int} (h1 : ¬ g.machine = 0) (h2 : g.host = f.host) (h3 : ¬ gap < dist f g) : skipN f g gap = false := by unfold skipN; simp [h1, h2]; omega
theorem nearK_get {l : List Fnd} {f : Fnd} {gap : Int} {k : Nat} (hk : k ≤ l.length) (h : 0 ≤ nearK l f gap k) : (nearK l f gap k).toNat < l.length ∧ ∃ b, l[(nearK l f gap k).toNat]? = some b := by
  rcases nearK_in l f gap k with h1 | ⟨_, h2, b, hb, _⟩
  · omega
  · exact ⟨by omega, b, hb⟩
end Go.Proofs.Ytgdlhajfajddiaa
namespace Go.Proofs.Ytgdlhajfajddiaa
open Go Go.RowKit Cp

theorem arr_rep (n : Nat) : (List.replicate n (Value.int .i64 0)).map is = arr (List.replicate n 0) := by unfold arr; simp [List.map_replicate]
abbrev rowE (e : Ent) : List Pr := [int e.num, strs e.hosts, ints e.machines, ints e.fnds]
abbrev ents (l : List Ent) : Pr := slice 4 (l.map rowE)
/-- The number of the first entity that has a finding. -/
def ofE (l : List Ent) (v : Int) : Int := match l.find? (fun e => e.fnds.any fun x => v == x) with
  | some e => e.num
  | none => -1
theorem find_at {α : Type} {p : α → Bool} {l : List α} {k : Nat} {x : α} (hx : l[k]? = some x) (hno : (l.take k).find? p = none) (hp : p x = true) : l.find? p = some x := by
  have hk := lt_of_atX hx
  rw [List.getElem?_eq_getElem hk] at hx
  cases hx
  conv => lhs; rw [← List.take_append_drop k l, List.drop_eq_getElem_cons hk]
  rw [List.find?_append, hno, List.find?_cons_of_pos hp]; rfl
theorem find_no {α : Type} {p : α → Bool} {l : List α} {k : Nat} {x : α} (hx : l[k]? = some x) (hno : (l.take k).find? p = none) (hp : p x = false) : (l.take (k + 1)).find? p = none := by
  rw [List.take_add_one, hx, List.find?_append, hno]; simp [hp]
end Go.Proofs.Ytgdlhajfajddiaa
namespace Go.Proofs.Ytgdlhajfajddiaa
open Go Go.RowKit Cp

theorem ent_lens (l : List Fnd) (root : Nat → Nat) (r : Nat) : ∀ k, (entK l root r k).fnds.length ≤ k ∧ (entK l root r k).hosts.length ≤ k ∧ (entK l root r k).machines.length ≤ k
  | 0 => ⟨Nat.zero_le _, Nat.zero_le _, Nat.zero_le _⟩
  | k + 1 => by
    obtain ⟨h1, h2, h3⟩ := ent_lens l root r k
    by_cases h : root k = r
    · cases hf : l[k]? with
      | none =>
        have : entK l root r (k + 1) = entK l root r k := by simp only [entK, hf]
        rw [this]; omega
      | some f =>
        rw [entK_yes hf h]
        unfold entAdd
        have h4 : (insT (entK l root r k).hosts f.host).length ≤ _ := insC_len Lib.compareBytes f.host (entK l root r k).hosts
        have h5 : (insN (entK l root r k).machines f.machine).length ≤ _ := insC_len cmpI f.machine (entK l root r k).machines
        refine ⟨by simp; omega, by show (insT _ _).length ≤ _; omega, ?_⟩
        show (if f.machine = 0 then _ else _ : List Int).length ≤ _
        split <;> omega
    · rw [entK_no h]; omega
open Classical in
/-- What Entities answers. -/
noncomputable def entR (l : List Fnd) (gap : Int) : List Ent × Int := if NormP l then (if gap < 0 ∨ 4000 < gap then ([], 2) else (entsF l gap, 0)) else ([], 24)
theorem entR_odd {l : List Fnd} {gap : Int} (h : ¬ NormP l) : entR l gap = ([], 24) := by unfold entR; rw [if_neg h]
theorem entR_gap {l : List Fnd} {gap : Int} (h : NormP l) (hg : gap < 0 ∨ 4000 < gap) : entR l gap = ([], 2) := by unfold entR; rw [if_pos h, if_pos hg]
theorem entR_ok {l : List Fnd} {gap : Int} (h : NormP l) (hg : 0 ≤ gap ∧ gap ≤ 4000) : entR l gap = (entsF l gap, 0) := by unfold entR; rw [if_pos h, if_neg (by omega)]
theorem days_of {l : List Fnd} (h : NormP l) : DaysIn l := fun f hf => by
  have := h.check f hf
  unfold checkF whenF at this
  simp at this; omega
end Go.Proofs.Ytgdlhajfajddiaa
namespace Go.Proofs.Ytgdlhajfajddiaa
open Go Go.RowKit Cp
set_option maxRecDepth 20000 in
theorem w_distance {f g : Fnd} (hf : 0 ≤ f.day ∧ f.day ≤ 40000) (hg : 0 ≤ g.day ∧ g.day ≤ 40000) : Fun Try.prog 47 [agg (rowF f), agg (rowF g)] (int (dist f g)) := by
 refine Fun.of Try.func47 rfl rfl (by exact Nat.le_of_ble_eq_true rfl) fun M0 w0 => ?_
 refine Tr.seq (Tr.reg0 ?_)
 refine Ch.oo rfl rfl rfl (ok_box rfl (VL.le (vl rfl) (agg_cellsP _))) ?_
 refine Ch.oo rfl rfl rfl (ok_box rfl (VL.le (vl rfl) (agg_cellsP _))) ?_
 refine Ch.as rfl rfl rfl rfl rfl ?_
 refine Ch.nil (Fin.go (Tr.seq (Tr.reg0 ?_)))
 refine Ch.oo rfl rfl rfl (ok_fieldAddr rfl fo45_3 (vl rfl) rfl) ?_
 refine Ch.oo rfl rfl rfl (ok_load1 rfl one3 (vl rfl)) ?_
 refine Ch.oo rfl rfl rfl (ok_fieldAddr rfl fo45_3 (vl rfl) rfl) ?_
 refine Ch.oo rfl rfl rfl (ok_load1 rfl one3 (vl rfl)) ?_
 first
  | (refine Ch.oo rfl rfl rfl (ok_sub rfl (vl rfl) (vl rfl) ?hin) ?_; case hin => unfold InI; omega)
  | refine Ch.oo rfl rfl rfl (ok_int rfl (vl rfl) (vl rfl) rfl) ?_
 refine Ch.oo rfl rfl rfl (ok_fieldAddr rfl fo45_3 (vl rfl) rfl) ?_
 refine Ch.oo rfl rfl rfl (ok_load1 rfl one3 (vl rfl)) ?_
 refine Ch.oo rfl rfl rfl (ok_fieldAddr rfl fo45_3 (vl rfl) rfl) ?_
 refine Ch.oo rfl rfl rfl (ok_load1 rfl one3 (vl rfl)) ?_
 first
  | (refine Ch.oo rfl rfl rfl (ok_sub rfl (vl rfl) (vl rfl) ?hin) ?_; case hin => unfold InI; omega)
  | refine Ch.oo rfl rfl rfl (ok_int rfl (vl rfl) (vl rfl) rfl) ?_
 refine Ch.oo rfl rfl rfl (ok_max rfl (vl rfl) (vl rfl)) ?_
 refine Ch.as rfl rfl rfl rfl rfl ?_
 refine Ch.nil (Fin.go ?_)
 refine Tr.w1 4 rfl ?_
 refine Tr.ret ?_
 refine Fin.ret1 rfl (OutW.bse _ _) rfl ?_
 · first | exact Pr.le_refl _ | (refine int_eq ?_; simp_all; done) | (refine bool_eq ?_; simp_all; done) | (refine bool_eq ?_; simp_all; omega) | (refine int_eq ?_; omega)
set_option maxRecDepth 20000 in
theorem w_Inear {l : List Fnd} {f : Fnd} {gap : Int} (hd : DaysIn l) (hfd : 0 ≤ f.day ∧ f.day ≤ 40000) : Fun Try.prog 46 [fnds l, agg (rowF f), int gap] (int (near l f gap)) := by
 refine Fun.of Try.func46 rfl rfl (by exact Nat.le_of_ble_eq_true rfl) fun M0 w0 => ?_
 refine Tr.lenm 0 rfl fun hlm_0 => ?_
 refine Tr.seq (Tr.reg0 ?_)
 refine Ch.oo rfl rfl rfl (ok_box rfl (VL.le (vl rfl) (agg_cellsP _))) ?_
 refine Ch.as rfl rfl rfl rfl rfl ?_
 refine Ch.nil (Fin.go (Tr.seq (Tr.reg0 ?_)))
 refine Ch.as rfl rfl rfl rfl rfl ?_
 refine Ch.nil (Fin.go (Tr.seq (Tr.seq (Tr.reg0 ?_))))
 refine Ch.mv rfl rfl rfl rfl rfl ?_
 first
  | refine Ch.oo rfl rfl rfl (ok_lenm rfl Try.underlying22 (vl rfl)) ?_
  | refine Ch.oo rfl rfl rfl (ok_len rfl Try.underlying22 (vl rfl)) ?_
 refine Ch.mv rfl rfl rfl rfl rfl ?_
 refine Ch.nil (Fin.go (Tr.block ?_))
 refine Tr.loopw [(0, _), (2, _), (4, _), (10, _), (11, _)] ⟨ke rfl, ke rfl, ke rfl, ke rfl, ke rfl, trivial⟩ (fun k : Nat => [(12, int ((k : Nat) : Int)), (7, int (nearK l f gap k))]) (fun k : Nat => k ≤ (l).length) (fun k : Nat => (l).length - k) 0 (Nat.zero_le _) ⟨ke rfl, ke rfl, trivial⟩ ?_
 rintro k hle_k
 refine Tr.seq (Tr.reg0 ?_)
 refine Ch.oo rfl rfl rfl (ok_int rfl (vl rfl) (vl rfl) rfl) ?_
 refine Ch.nil (Fin.go (Tr.seq ?_))
 refine Tr.cn rfl (fun h1 q1 => ?_) (fun h1 q1 => ?_)
 ·
  have hk_k : k < (l).length := lt_of_dec h1
  obtain ⟨g, hx_k⟩ := at_ hk_k
  have hgd := days_at hd hx_k
  refine Tr.skip (Fin.go (Tr.seq (Tr.block (Tr.seq (Tr.regT ?_)))))
  refine TO.mv rfl rfl rfl rfl rfl ?_
  refine TO.oo rfl rfl rfl (ok_indexAddr rfl Try.underlying22 sz45 (vl rfl) (vl rfl) (by omega) (by first | exact row_at (by assumption) | exact row_atI (by assumption) | assumption)) ?_
  refine TO.oo rfl rfl rfl (ok_loadA rfl agg45 sz45 (vl rfl) rfl rfl) ?_
  refine TO.alloc rfl rfl (by decide) rfl z45 zo45 (fun b1 => ?_)
  refine TO.as rfl rfl rfl rfl rfl ?_
  refine TO.store_all 0 rfl rfl rfl (vl rfl) (VL.le (vl rfl) (agg_cellsP _)) rfl sz45 rfl rfl ?_
  refine TO.freeze 0 9 rfl rfl ?_
  refine TO.nil (Fin.go ?_)
  refine Tr.w9 0 2 4 7 8 9 10 11 12 rfl rfl rfl rfl rfl rfl rfl rfl rfl ?_
  refine Tr.seq (Tr.seq (Tr.reg0 ?_))
  refine Ch.oo rfl rfl rfl (ok_fieldAddr rfl fo45_2 (vl rfl) rfl) ?_
  refine Ch.oo rfl rfl rfl (ok_load1 rfl one3 (vl rfl)) ?_
  refine Ch.oo rfl rfl rfl (ok_int rfl (vl rfl) (vl rfl) rfl) ?_
  refine Ch.mv rfl rfl rfl rfl rfl ?_
  refine Ch.cs 20 rfl (fun h2 q2 => ?_) (fun h2 q2 => ?_)
  ·
   iterate 5 refine Ch.nf h2 rfl rfl rfl rfl rfl ?_
   refine Ch.oo rfl rfl rfl (ok_pick_t rfl (vl rfl) h2 (vl rfl)) ?_
   refine Ch.mv rfl rfl rfl rfl rfl ?_
   iterate 5 refine Ch.nd rfl rfl rfl rfl rfl rfl ?_
   refine Ch.oo rfl rfl rfl (ok_pick_t rfl (vl rfl) rfl (vl rfl)) ?_
   refine Ch.nil (Fin.go ?_)
   refine Tr.w10 0 2 4 7 8 9 10 11 12 33 rfl rfl rfl rfl rfl rfl rfl rfl rfl rfl ?_
   refine Tr.cond rfl (fun _ => ?_) (fun h => nomatch h)
   refine Tr.exit ?_
   refine Fin.then_exit ?_
   refine Fin.block_here ?_
   refine Fin.go (Tr.reg0 ?_)
   first
    | (refine Ch.oo rfl rfl rfl (ok_add rfl (vl rfl) (vl rfl) ?hin) ?_; case hin => unfold InI; omega)
    | refine Ch.oo rfl rfl rfl (ok_int rfl (vl rfl) (vl rfl) rfl) ?_
   refine Ch.mv rfl rfl rfl rfl rfl ?_
   refine Ch.nil ?_
   exact Fin.fam_same (k + 1) ⟨hk_k, by omega⟩ ⟨⟨_, rfl, int_succ k⟩, ⟨_, rfl, int_eq (by first | exact (nearK_skip hx_k (skip_yes (by first | exact .inl (by assumption) | exact .inr (.inl (by assumption)) | exact .inr (.inr (by omega))))).symm | exact (nearK_first hx_k (skip_no (by assumption) (by assumption) (by omega)) (by omega)).symm | (rw [nearK_two hx_k (skip_no (by assumption) (by assumption) (by omega)) (by omega) hb]; have hoo := orL_orF [cmpI (dist f g) (dist f b), cmpI g.day b.day, cmpI g.machine b.machine]; unfold closer; first | rw [if_pos (decide_eq_true (by omega))] | rw [if_neg (by rw [decide_eq_true_eq]; omega)]))⟩, ke rfl, ke rfl, ke rfl, ke rfl, ke rfl, trivial⟩
  ·
   refine Ch.y h2 rfl rfl rfl rfl rfl (ok_fieldAddr rfl fo45_1 (vl rfl) rfl) ?_
   refine Ch.y h2 rfl rfl rfl rfl rfl (ok_load1 rfl one9 (vl rfl)) ?_
   refine Ch.y h2 rfl rfl rfl rfl rfl (ok_fieldAddr rfl fo45_1 (vl rfl) rfl) ?_
   refine Ch.y h2 rfl rfl rfl rfl rfl (ok_load1 rfl one9 (vl rfl)) ?_
   refine Ch.y h2 rfl rfl rfl rfl rfl (ok_nes rfl (vl rfl) (vl rfl)) ?_
   refine Ch.oo rfl rfl rfl (ok_pick_f rfl (vl rfl) h2 (vl rfl)) ?_
   refine Ch.mv rfl rfl rfl rfl rfl ?_
   refine Ch.cs 27 rfl (fun h3 q3 => ?_) (fun h3 q3 => ?_)
   ·
    iterate 5 refine Ch.nf h3 rfl rfl rfl rfl rfl ?_
    refine Ch.oo rfl rfl rfl (ok_pick_t rfl (vl rfl) h3 (vl rfl)) ?_
    refine Ch.nil (Fin.go ?_)
    refine Tr.w10 0 2 4 7 8 9 10 11 12 33 rfl rfl rfl rfl rfl rfl rfl rfl rfl rfl ?_
    refine Tr.cond rfl (fun _ => ?_) (fun h => nomatch h)
    refine Tr.exit ?_
    refine Fin.then_exit ?_
    refine Fin.block_here ?_
    refine Fin.go (Tr.reg0 ?_)
    first
     | (refine Ch.oo rfl rfl rfl (ok_add rfl (vl rfl) (vl rfl) ?hin) ?_; case hin => unfold InI; omega)
     | refine Ch.oo rfl rfl rfl (ok_int rfl (vl rfl) (vl rfl) rfl) ?_
    refine Ch.mv rfl rfl rfl rfl rfl ?_
    refine Ch.nil ?_
    exact Fin.fam_same (k + 1) ⟨hk_k, by omega⟩ ⟨⟨_, rfl, int_succ k⟩, ⟨_, rfl, int_eq (by first | exact (nearK_skip hx_k (skip_yes (by first | exact .inl (by assumption) | exact .inr (.inl (by assumption)) | exact .inr (.inr (by omega))))).symm | exact (nearK_first hx_k (skip_no (by assumption) (by assumption) (by omega)) (by omega)).symm | (rw [nearK_two hx_k (skip_no (by assumption) (by assumption) (by omega)) (by omega) hb]; have hoo := orL_orF [cmpI (dist f g) (dist f b), cmpI g.day b.day, cmpI g.machine b.machine]; unfold closer; first | rw [if_pos (decide_eq_true (by omega))] | rw [if_neg (by rw [decide_eq_true_eq]; omega)]))⟩, ke rfl, ke rfl, ke rfl, ke rfl, ke rfl, trivial⟩
   ·
    refine Ch.y h3 rfl rfl rfl rfl rfl (ok_loadA rfl agg45 sz45 (vl rfl) rfl rfl) ?_
    refine Ch.y h3 rfl rfl rfl rfl rfl (ok_loadA rfl agg45 sz45 (vl rfl) rfl rfl) ?_
    refine Ch.y h3 rfl rfl rfl rfl rfl (ok_call rfl (w_distance (by assumption) (by assumption)) ⟨ke rfl, ke rfl, trivial⟩) ?_
    refine Ch.ym h3 rfl rfl rfl rfl rfl rfl rfl ?_
    refine Ch.y h3 rfl rfl rfl rfl rfl (ok_int rfl (vl rfl) (vl rfl) rfl) ?_
    refine Ch.oo rfl rfl rfl (ok_pick_f rfl (vl rfl) h3 (vl rfl)) ?_
    refine Ch.nil (Fin.go ?_)
    refine Tr.w10 0 2 4 7 8 9 10 11 12 33 rfl rfl rfl rfl rfl rfl rfl rfl rfl rfl ?_
    refine Tr.cn rfl (fun h4 q4 => ?_) (fun h4 q4 => ?_)
    ·
     refine Tr.exit ?_
     refine Fin.then_exit ?_
     refine Fin.block_here ?_
     refine Fin.go (Tr.reg0 ?_)
     first
      | (refine Ch.oo rfl rfl rfl (ok_add rfl (vl rfl) (vl rfl) ?hin) ?_; case hin => unfold InI; omega)
      | refine Ch.oo rfl rfl rfl (ok_int rfl (vl rfl) (vl rfl) rfl) ?_
     refine Ch.mv rfl rfl rfl rfl rfl ?_
     refine Ch.nil ?_
     exact Fin.fam_same (k + 1) ⟨hk_k, by omega⟩ ⟨⟨_, rfl, int_succ k⟩, ⟨_, rfl, int_eq (by first | exact (nearK_skip hx_k (skip_yes (by first | exact .inl (by assumption) | exact .inr (.inl (by assumption)) | exact .inr (.inr (by omega))))).symm | exact (nearK_first hx_k (skip_no (by assumption) (by assumption) (by omega)) (by omega)).symm | (rw [nearK_two hx_k (skip_no (by assumption) (by assumption) (by omega)) (by omega) hb]; have hoo := orL_orF [cmpI (dist f g) (dist f b), cmpI g.day b.day, cmpI g.machine b.machine]; unfold closer; first | rw [if_pos (decide_eq_true (by omega))] | rw [if_neg (by rw [decide_eq_true_eq]; omega)]))⟩, ke rfl, ke rfl, ke rfl, ke rfl, ke rfl, trivial⟩
    ·
     refine Tr.skip (Fin.go (Tr.seq ?_))
     refine Tr.reg1 mixed (by kernel_rfl) ?_
     refine Ch.mv rfl rfl rfl rfl rfl ?_
     refine Ch.oo rfl rfl rfl (ok_int rfl (vl rfl) (vl rfl) rfl) ?_
     refine Ch.mv rfl rfl rfl rfl rfl ?_
     refine Ch.cs 36 rfl (fun h5 q5 => ?_) (fun h5 q5 => ?_)
     ·
      iterate 29 refine Ch.nf h5 rfl rfl rfl rfl rfl ?_
      refine Ch.oo rfl rfl rfl (ok_pick_t rfl (vl rfl) h5 (vl rfl)) ?_
      refine Ch.nil (Fin.go ?_)
      refine Tr.w9 0 2 4 7 8 10 11 12 66 rfl rfl rfl rfl rfl rfl rfl rfl rfl ?_
      refine Tr.cond rfl (fun _ => ?_) (fun h => nomatch h)
      refine Tr.reg0 ?_
      refine Ch.mv rfl rfl rfl rfl rfl ?_
      refine Ch.as rfl rfl rfl rfl rfl ?_
      refine Ch.nil (Fin.block (Fin.go (Tr.reg0 ?_)))
      first
       | (refine Ch.oo rfl rfl rfl (ok_add rfl (vl rfl) (vl rfl) ?hin) ?_; case hin => unfold InI; omega)
       | refine Ch.oo rfl rfl rfl (ok_int rfl (vl rfl) (vl rfl) rfl) ?_
      refine Ch.mv rfl rfl rfl rfl rfl ?_
      refine Ch.nil ?_
      exact Fin.fam_same (k + 1) ⟨hk_k, by omega⟩ ⟨⟨_, rfl, int_succ k⟩, ⟨_, rfl, int_eq (by first | exact (nearK_skip hx_k (skip_yes (by first | exact .inl (by assumption) | exact .inr (.inl (by assumption)) | exact .inr (.inr (by omega))))).symm | exact (nearK_first hx_k (skip_no (by assumption) (by assumption) (by omega)) (by omega)).symm | (rw [nearK_two hx_k (skip_no (by assumption) (by assumption) (by omega)) (by omega) hb]; have hoo := orL_orF [cmpI (dist f g) (dist f b), cmpI g.day b.day, cmpI g.machine b.machine]; unfold closer; first | rw [if_pos (decide_eq_true (by omega))] | rw [if_neg (by rw [decide_eq_true_eq]; omega)]))⟩, ke rfl, ke rfl, ke rfl, ke rfl, ke rfl, trivial⟩
     ·
      obtain ⟨hnk, b, hb⟩ := nearK_get (by omega) q5
      have hbd := days_at hd hb
      refine Ch.y h5 rfl rfl rfl rfl rfl (ok_loadA rfl agg45 sz45 (vl rfl) rfl rfl) ?_
      refine Ch.y h5 rfl rfl rfl rfl rfl (ok_loadA rfl agg45 sz45 (vl rfl) rfl rfl) ?_
      refine Ch.y h5 rfl rfl rfl rfl rfl (ok_call rfl (w_distance (by assumption) (by assumption)) ⟨ke rfl, ke rfl, trivial⟩) ?_
      refine Ch.y h5 rfl rfl rfl rfl rfl (ok_loadA rfl agg45 sz45 (vl rfl) rfl rfl) ?_
      refine Ch.ym h5 rfl rfl rfl rfl rfl rfl rfl ?_
      refine Ch.ym h5 rfl rfl rfl rfl rfl rfl rfl ?_
      refine Ch.y h5 rfl rfl rfl rfl rfl (ok_indexAddr rfl Try.underlying22 sz45 (vl rfl) (vl rfl) (by omega) (row_atI hb)) ?_
      refine Ch.y h5 rfl rfl rfl rfl rfl (ok_loadA rfl agg45 sz45 (vl rfl) rfl rfl) ?_
      refine Ch.y h5 rfl rfl rfl rfl rfl (ok_call rfl (w_distance (by assumption) (by assumption)) ⟨ke rfl, ke rfl, trivial⟩) ?_
      refine Ch.y h5 rfl rfl rfl rfl rfl (ok_call rfl (w_cmpI) ⟨ke rfl, ke rfl, trivial⟩) ?_
      refine Ch.y h5 rfl rfl rfl rfl rfl (ok_fieldAddr rfl fo45_3 (vl rfl) rfl) ?_
      refine Ch.y h5 rfl rfl rfl rfl rfl (ok_load1 rfl one3 (vl rfl)) ?_
      refine Ch.ym h5 rfl rfl rfl rfl rfl rfl rfl ?_
      refine Ch.ym h5 rfl rfl rfl rfl rfl rfl rfl ?_
      refine Ch.y h5 rfl rfl rfl rfl rfl (ok_indexAddr rfl Try.underlying22 sz45 (vl rfl) (vl rfl) (by omega) (row_atI hb)) ?_
      refine Ch.y h5 rfl rfl rfl rfl rfl (ok_fieldAddr rfl fo45_3 (vl rfl) rfl) ?_
      refine Ch.y h5 rfl rfl rfl rfl rfl (ok_load1 rfl one3 (vl rfl)) ?_
      refine Ch.y h5 rfl rfl rfl rfl rfl (ok_call rfl (w_cmpI) ⟨ke rfl, ke rfl, trivial⟩) ?_
      refine Ch.y h5 rfl rfl rfl rfl rfl (ok_fieldAddr rfl fo45_2 (vl rfl) rfl) ?_
      refine Ch.y h5 rfl rfl rfl rfl rfl (ok_load1 rfl one3 (vl rfl)) ?_
      refine Ch.ym h5 rfl rfl rfl rfl rfl rfl rfl ?_
      refine Ch.ym h5 rfl rfl rfl rfl rfl rfl rfl ?_
      refine Ch.y h5 rfl rfl rfl rfl rfl (ok_indexAddr rfl Try.underlying22 sz45 (vl rfl) (vl rfl) (by omega) (row_atI hb)) ?_
      refine Ch.y h5 rfl rfl rfl rfl rfl (ok_fieldAddr rfl fo45_2 (vl rfl) rfl) ?_
      refine Ch.y h5 rfl rfl rfl rfl rfl (ok_load1 rfl one3 (vl rfl)) ?_
      refine Ch.y h5 rfl rfl rfl rfl rfl (ok_call rfl (w_cmpI) ⟨ke rfl, ke rfl, trivial⟩) ?_
      refine Ch.y h5 rfl rfl rfl rfl rfl (ok_buildSlice (xs := [.tmp 46, .tmp 54, .tmp 62]) (rows := [[_], [_], [_]]) rfl rfl Try.underlying26 sz3 z3 rfl (by decide) ⟨⟨(by exact rfl), (VL.le (vl rfl) (one_cellsP _))⟩, ⟨⟨(by exact rfl), (VL.le (vl rfl) (one_cellsP _))⟩, ⟨⟨(by exact rfl), (VL.le (vl rfl) (one_cellsP _))⟩, trivial⟩⟩⟩ (by decide)) ?_
      refine Ch.y h5 rfl rfl rfl rfl rfl (ok_call rfl (w_orI (l := [cmpI (dist f g) (dist f b), cmpI g.day b.day, cmpI g.machine b.machine])) ⟨⟨_, rfl, full_le _ _⟩, trivial⟩) ?_
      refine Ch.y h5 rfl rfl rfl rfl rfl (ok_int rfl (vl rfl) (vl rfl) rfl) ?_
      refine Ch.oo rfl rfl rfl (ok_pick_f rfl (vl rfl) h5 (vl rfl)) ?_
      refine Ch.nil (Fin.go ?_)
      refine Tr.w9 0 2 4 7 8 10 11 12 66 rfl rfl rfl rfl rfl rfl rfl rfl rfl ?_
      refine Tr.cn rfl (fun h6 q6 => ?_) (fun h6 q6 => ?_)
      ·
       refine Tr.reg0 ?_
       refine Ch.mv rfl rfl rfl rfl rfl ?_
       refine Ch.as rfl rfl rfl rfl rfl ?_
       refine Ch.nil (Fin.block (Fin.go (Tr.reg0 ?_)))
       first
        | (refine Ch.oo rfl rfl rfl (ok_add rfl (vl rfl) (vl rfl) ?hin) ?_; case hin => unfold InI; omega)
        | refine Ch.oo rfl rfl rfl (ok_int rfl (vl rfl) (vl rfl) rfl) ?_
       refine Ch.mv rfl rfl rfl rfl rfl ?_
       refine Ch.nil ?_
       exact Fin.fam_same (k + 1) ⟨hk_k, by omega⟩ ⟨⟨_, rfl, int_succ k⟩, ⟨_, rfl, int_eq (by first | exact (nearK_skip hx_k (skip_yes (by first | exact .inl (by assumption) | exact .inr (.inl (by assumption)) | exact .inr (.inr (by omega))))).symm | exact (nearK_first hx_k (skip_no (by assumption) (by assumption) (by omega)) (by omega)).symm | (rw [nearK_two hx_k (skip_no (by assumption) (by assumption) (by omega)) (by omega) hb]; have hoo := orL_orF [cmpI (dist f g) (dist f b), cmpI g.day b.day, cmpI g.machine b.machine]; unfold closer; first | rw [if_pos (decide_eq_true (by omega))] | rw [if_neg (by rw [decide_eq_true_eq]; omega)]))⟩, ke rfl, ke rfl, ke rfl, ke rfl, ke rfl, trivial⟩
      ·
       refine Tr.skip (Fin.block (Fin.go (Tr.reg0 ?_)))
       first
        | (refine Ch.oo rfl rfl rfl (ok_add rfl (vl rfl) (vl rfl) ?hin) ?_; case hin => unfold InI; omega)
        | refine Ch.oo rfl rfl rfl (ok_int rfl (vl rfl) (vl rfl) rfl) ?_
       refine Ch.mv rfl rfl rfl rfl rfl ?_
       refine Ch.nil ?_
       exact Fin.fam_same (k + 1) ⟨hk_k, by omega⟩ ⟨⟨_, rfl, int_succ k⟩, ⟨_, rfl, int_eq (by first | exact (nearK_skip hx_k (skip_yes (by first | exact .inl (by assumption) | exact .inr (.inl (by assumption)) | exact .inr (.inr (by omega))))).symm | exact (nearK_first hx_k (skip_no (by assumption) (by assumption) (by omega)) (by omega)).symm | (rw [nearK_two hx_k (skip_no (by assumption) (by assumption) (by omega)) (by omega) hb]; have hoo := orL_orF [cmpI (dist f g) (dist f b), cmpI g.day b.day, cmpI g.machine b.machine]; unfold closer; first | rw [if_pos (decide_eq_true (by omega))] | rw [if_neg (by rw [decide_eq_true_eq]; omega)]))⟩, ke rfl, ke rfl, ke rfl, ke rfl, ke rfl, trivial⟩
 ·
  have he_k : k = (l).length := by have := ge_of_dec h1; omega
  subst he_k
  refine Tr.exit ?_
  refine Fin.then_exit ?_
  refine Fin.then_exit ?_
  refine Fin.block_here ?_
  refine Fin.go (Tr.seq (Tr.reg0 ?_))
  refine Ch.mv rfl rfl rfl rfl rfl ?_
  refine Ch.as rfl rfl rfl rfl rfl ?_
  refine Ch.nil (Fin.go (Tr.ret ?_))
  refine Fin.ret1 rfl (OutW.bse _ _) rfl ?_
  · first | exact Pr.le_refl _ | (refine int_eq ?_; simp_all; done) | (refine bool_eq ?_; simp_all; done) | (refine bool_eq ?_; simp_all; omega) | (refine int_eq ?_; omega)
open Classical in
/-- What early answers. -/
noncomputable def earlyR (l : List Fnd) (gap : Int) : Int := if NormP l then (if gap < 0 ∨ 4000 < gap then 2 else 0) else 24

set_option maxRecDepth 20000 in
theorem w_Iearly {l : List Fnd} {gap : Int} (hf : ∀ f ∈ l, f.fits) : Fun Try.prog 20 [fnds l, int gap] (int (earlyR l gap)) := by
 refine Fun.of Try.func20 rfl rfl (by exact Nat.le_of_ble_eq_true rfl) fun M0 w0 => ?_
 haveI := Classical.propDecidable (NormP l)
 refine Tr.seq (Tr.reg0 ?_)
 refine Ch.as rfl rfl rfl rfl rfl ?_
 refine Ch.nil (Fin.go (Tr.seq (Tr.block (Tr.seq (Tr.reg0 ?_)))))
 refine Ch.mv rfl rfl rfl rfl rfl ?_
 refine Ch.oo rfl rfl rfl (ok_call rfl (w_FNormal (by assumption)) ⟨ke rfl, trivial⟩) ?_
 refine Ch.oo rfl rfl rfl (ok_not rfl (vl rfl)) ?_
 refine Ch.as rfl rfl rfl rfl rfl ?_
 refine Ch.nil (Fin.go ?_)
 refine Tr.cn rfl (fun h1 q1 => ?_) (fun h1 q1 => ?_)
 ·
  refine Tr.seq (Tr.reg0 ?_)
  refine Ch.as rfl rfl rfl rfl rfl ?_
  refine Ch.nil (Fin.go (Tr.ret ?_))
  refine Fin.block_ret ?_
  refine Fin.then_ret ?_
  refine Fin.ret1 rfl (OutW.bse _ _) rfl ?_
  · first | exact int_eq (by unfold earlyR; rw [if_neg (by assumption)]) | exact int_eq (by unfold earlyR; rw [if_pos (by assumption), if_pos (by omega)]) | exact int_eq (by unfold earlyR; rw [if_pos (by assumption), if_neg (by omega)])
 ·
  refine Tr.seq (Tr.reg0 ?_)
  refine Ch.mv rfl rfl rfl rfl rfl ?_
  refine Ch.oo rfl rfl rfl (ok_int rfl (vl rfl) (vl rfl) rfl) ?_
  refine Ch.mv rfl rfl rfl rfl rfl ?_
  refine Ch.cs 12 rfl (fun h2 q2 => ?_) (fun h2 q2 => ?_)
  ·
   refine Ch.nf h2 rfl rfl rfl rfl rfl ?_
   refine Ch.nf h2 rfl rfl rfl rfl rfl ?_
   refine Ch.oo rfl rfl rfl (ok_pick_t rfl (vl rfl) h2 (vl rfl)) ?_
   refine Ch.as rfl rfl rfl rfl rfl ?_
   refine Ch.nil (Fin.go ?_)
   refine Tr.cond rfl (fun _ => ?_) (fun h => nomatch h)
   refine Tr.seq (Tr.reg0 ?_)
   refine Ch.as rfl rfl rfl rfl rfl ?_
   refine Ch.nil (Fin.go (Tr.ret ?_))
   refine Fin.block_ret ?_
   refine Fin.then_ret ?_
   refine Fin.ret1 rfl (OutW.bse _ _) rfl ?_
   · first | exact int_eq (by unfold earlyR; rw [if_neg (by assumption)]) | exact int_eq (by unfold earlyR; rw [if_pos (by assumption), if_pos (by omega)]) | exact int_eq (by unfold earlyR; rw [if_pos (by assumption), if_neg (by omega)])
  ·
   refine Ch.ym h2 rfl rfl rfl rfl rfl rfl rfl ?_
   refine Ch.y h2 rfl rfl rfl rfl rfl (ok_int rfl (vl rfl) (vl rfl) rfl) ?_
   refine Ch.oo rfl rfl rfl (ok_pick_f rfl (vl rfl) h2 (vl rfl)) ?_
   refine Ch.as rfl rfl rfl rfl rfl ?_
   refine Ch.nil (Fin.go ?_)
   refine Tr.cn rfl (fun h3 q3 => ?_) (fun h3 q3 => ?_)
   ·
    refine Tr.seq (Tr.reg0 ?_)
    refine Ch.as rfl rfl rfl rfl rfl ?_
    refine Ch.nil (Fin.go (Tr.ret ?_))
    refine Fin.block_ret ?_
    refine Fin.then_ret ?_
    refine Fin.ret1 rfl (OutW.bse _ _) rfl ?_
    · first | exact int_eq (by unfold earlyR; rw [if_neg (by assumption)]) | exact int_eq (by unfold earlyR; rw [if_pos (by assumption), if_pos (by omega)]) | exact int_eq (by unfold earlyR; rw [if_pos (by assumption), if_neg (by omega)])
   ·
    refine Tr.skip (Fin.block (Fin.go (Tr.seq (Tr.reg0 ?_))))
    refine Ch.as rfl rfl rfl rfl rfl ?_
    refine Ch.nil (Fin.go (Tr.ret ?_))
    refine Fin.ret1 rfl (OutW.bse _ _) rfl ?_
    · first | exact int_eq (by unfold earlyR; rw [if_neg (by assumption)]) | exact int_eq (by unfold earlyR; rw [if_pos (by assumption), if_pos (by omega)]) | exact int_eq (by unfold earlyR; rw [if_pos (by assumption), if_neg (by omega)])
set_option maxRecDepth 20000 in
theorem w_IOf {l : List Ent} {v : Int}  : Fun Try.prog 12 [ents l, int v] (int (ofE l v)) := by
 refine Fun.of Try.func12 rfl rfl (by exact Nat.le_of_ble_eq_true rfl) fun M0 w0 => ?_
 refine Tr.lenm 0 rfl fun hlm_0 => ?_
 refine Tr.seq (Tr.reg0 ?_)
 refine Ch.as rfl rfl rfl rfl rfl ?_
 refine Ch.nil (Fin.go (Tr.seq (Tr.seq (Tr.reg0 ?_))))
 refine Ch.mv rfl rfl rfl rfl rfl ?_
 first
  | refine Ch.oo rfl rfl rfl (ok_lenm rfl Try.underlying23 (vl rfl)) ?_
  | refine Ch.oo rfl rfl rfl (ok_len rfl Try.underlying23 (vl rfl)) ?_
 refine Ch.mv rfl rfl rfl rfl rfl ?_
 refine Ch.nil (Fin.go (Tr.block ?_))
 refine Tr.loopw [(1, _), (7, _), (8, _)] ⟨ke rfl, ke rfl, ke rfl, trivial⟩ (fun k : Nat => [(9, int ((k : Nat) : Int))]) (fun k : Nat => k ≤ (l).length ∧ ((l.take k).find? (fun e => e.fnds.any fun x => v == x) = none)) (fun k : Nat => (l).length - k) 0 (⟨Nat.zero_le _, rfl⟩) ⟨ke rfl, trivial⟩ ?_
 rintro k ⟨hle_k, hinv_k⟩
 refine Tr.seq (Tr.reg0 ?_)
 refine Ch.oo rfl rfl rfl (ok_int rfl (vl rfl) (vl rfl) rfl) ?_
 refine Ch.nil (Fin.go (Tr.seq ?_))
 refine Tr.cn rfl (fun h1 q1 => ?_) (fun h1 q1 => ?_)
 ·
  have hk_k : k < (l).length := lt_of_dec h1
  obtain ⟨x, hx_k⟩ := at_ hk_k
  refine Tr.skip (Fin.go (Tr.seq (Tr.block (Tr.seq (Tr.regT ?_)))))
  refine TO.oo rfl rfl rfl (ok_indexAddr rfl Try.underlying23 sz28 (vl rfl) (vl rfl) (by omega) (by first | exact row_at (by assumption) | exact row_atI (by assumption) | assumption)) ?_
  refine TO.oo rfl rfl rfl (ok_loadA rfl agg28 sz28 (vl rfl) rfl rfl) ?_
  refine TO.alloc rfl rfl (by decide) rfl z28 zo28 (fun b1 => ?_)
  refine TO.store_all 0 rfl rfl rfl (vl rfl) (VL.le (vl rfl) (agg_cellsP _)) rfl sz28 rfl rfl ?_
  refine TO.freeze 0 6 rfl rfl ?_
  refine TO.nil (Fin.go (Tr.seq (Tr.reg0 ?_)))
  refine Ch.oo rfl rfl rfl (ok_fieldAddr rfl fo28_3 (vl rfl) rfl) ?_
  refine Ch.oo rfl rfl rfl (ok_load1 rfl one26 (vl rfl)) ?_
  refine Ch.mv rfl rfl rfl rfl rfl ?_
  refine Ch.oo rfl rfl rfl (ok_call rfl (w_ContainsI) ⟨ke rfl, ke rfl, trivial⟩) ?_
  refine Ch.nil (Fin.go ?_)
  refine Tr.w6 1 6 7 8 9 16 rfl rfl rfl rfl rfl rfl ?_
  refine Tr.cn rfl (fun h2 q2 => ?_) (fun h2 q2 => ?_)
  ·
   refine Tr.seq (Tr.reg0 ?_)
   refine Ch.oo rfl rfl rfl (ok_fieldAddr rfl fo28_0 (vl rfl) rfl) ?_
   refine Ch.oo rfl rfl rfl (ok_load1 rfl one3 (vl rfl)) ?_
   refine Ch.as rfl rfl rfl rfl rfl ?_
   refine Ch.nil (Fin.go (Tr.ret ?_))
   refine Fin.block_ret ?_
   refine Fin.then_ret ?_
   refine Fin.then_ret ?_
   refine Fin.block_ret ?_
   refine Fin.then_ret ?_
   refine Fin.ret1 rfl (OutW.bse _ _) rfl ?_
   · first | exact int_eq (by unfold ofE; rw [find_at hx_k hinv_k (by assumption)]) | exact int_eq (by unfold ofE; rw [hinv_k])
  ·
   refine Tr.skip (Fin.block (Fin.go (Tr.reg0 ?_)))
   first
    | (refine Ch.oo rfl rfl rfl (ok_add rfl (vl rfl) (vl rfl) ?hin) ?_; case hin => unfold InI; omega)
    | refine Ch.oo rfl rfl rfl (ok_int rfl (vl rfl) (vl rfl) rfl) ?_
   refine Ch.mv rfl rfl rfl rfl rfl ?_
   refine Ch.nil ?_
   exact Fin.fam_same (k + 1) ⟨⟨hk_k, find_no hx_k hinv_k (by assumption)⟩, by omega⟩ ⟨⟨_, rfl, int_succ k⟩, ke rfl, ke rfl, ke rfl, trivial⟩
 ·
  have he_k : k = (l).length := by have := ge_of_dec h1; omega
  subst he_k
  rw [List.take_length] at hinv_k
  refine Tr.exit ?_
  refine Fin.then_exit ?_
  refine Fin.then_exit ?_
  refine Fin.block_here ?_
  refine Fin.go (Tr.seq (Tr.reg0 ?_))
  refine Ch.as rfl rfl rfl rfl rfl ?_
  refine Ch.nil (Fin.go (Tr.ret ?_))
  refine Fin.ret1 rfl (OutW.bse _ _) rfl ?_
  · first | exact int_eq (by unfold ofE; rw [find_at hx_k hinv_k (by assumption)]) | exact int_eq (by unfold ofE; rw [hinv_k])
end Go.Proofs.Ytgdlhajfajddiaa
namespace Go.Proofs.Ytgdlhajfajddiaa
open Go Go.RowKit Cp

theorem join_store {p : List Int} {a b : Nat} (ha : a < p.length) (hb : b < p.length) : (arr p).take (0 + (max ((a : Nat) : Int) ((b : Nat) : Int)).toNat * 1) ++ [int (min ((a : Nat) : Int) ((b : Nat) : Int))] ++ (arr p).drop (0 + (max ((a : Nat) : Int) ((b : Nat) : Int)).toNat * 1 + 1) = arr (p.set (max a b) ((min a b : Nat) : Int)) := by
  rw [show (max ((a : Nat) : Int) ((b : Nat) : Int)).toNat = max a b by omega, show min ((a : Nat) : Int) ((b : Nat) : Int) = ((min a b : Nat) : Int) by omega, Nat.zero_add, Nat.mul_one]
  exact arr_set (by omega)

set_option maxRecDepth 20000 in
theorem w_proot {p : List Int} {R : Nat → Nat} {i b0 : Nat} (hu : UF p R) (hi : i < 400) : FunM Try.prog 22 [is (.pointer (some ⟨b0, 0, none⟩)), int ((i : Nat) : Int)] (int ((R i : Nat) : Int)) (cellsRes true b0 73 (arr p)) (fun _ => cellsRes true b0 73 (arr p)) := by
 refine FunM.of Try.func22 rfl rfl (by exact Nat.le_of_ble_eq_true rfl) fun M0 w0 S rs M1 w1 => ?_
 refine Tr.seq (Tr.reg0 ?_)
 refine Ch.as rfl rfl rfl rfl rfl ?_
 refine Ch.nil (Fin.go (Tr.seq (Tr.block ?_)))
 refine Tr.loopD1V0 [(0, _)] ⟨ke rfl, trivial⟩ (fun (x : Nat) => [(1, int ((x : Nat) : Int))]) (fun (x : Nat) => Hp M0 w0 S (cellsRes true b0 73 (arr p) :: extRes M1 w1 :: rs)) (fun (x : Nat) => x < 400 ∧ R x = R i) (fun (x : Nat) => x) (i)  (⟨hi, rfl⟩) ⟨ke rfl, trivial⟩ (fun _ _ h => h) ?_
 rintro x  ⟨hx4, hxR⟩
 obtain ⟨y, hy, hyle, hyR, hye⟩ := hu.par x hx4
 refine Tr.seq (Tr.seq (Tr.reg0 ?_))
 refine Ch.mv rfl rfl rfl rfl rfl ?_
 refine Ch.mv rfl rfl rfl rfl rfl ?_
 refine Ch.oo rfl rfl rfl (okp_nilCheck rfl (vl rfl)) ?_
 refine Ch.oo rfl rfl rfl (okp_indexArr rfl Try.underlying73 sz3 (vl rfl) (vl rfl) (by omega) (by omega)) ?_
 refine Ch.oo rfl rfl rfl (ok_rd 0 rfl (rd_load1 rfl one3 (vl rfl) (arr_atO (by rw [Int.toNat_natCast]; exact hy)))) ?_
 refine Ch.mv rfl rfl rfl rfl rfl ?_
 refine Ch.oo rfl rfl rfl (ok_int rfl (vl rfl) (vl rfl) rfl) ?_
 refine Ch.nil (Fin.go ?_)
 refine Tr.cn rfl (fun h1 q1 => ?_) (fun h1 q1 => ?_)
 ·
  have := h1
  refine Tr.skip (Fin.go (Tr.block (Tr.reg0 ?_)))
  refine Ch.mv rfl rfl rfl rfl rfl ?_
  refine Ch.mv rfl rfl rfl rfl rfl ?_
  refine Ch.oo rfl rfl rfl (okp_nilCheck rfl (vl rfl)) ?_
  refine Ch.oo rfl rfl rfl (okp_indexArr rfl Try.underlying73 sz3 (vl rfl) (vl rfl) (by omega) (by omega)) ?_
  refine Ch.oo rfl rfl rfl (ok_rd 0 rfl (rd_load1 rfl one3 (vl rfl) (arr_atO (by rw [Int.toNat_natCast]; exact hy)))) ?_
  refine Ch.as rfl rfl rfl rfl rfl ?_
  refine Ch.nil (Fin.block ?_)
  exact Fin.famD1V0 (y)  (⟨⟨by omega, by omega⟩, by omega⟩) ⟨ke rfl, ke rfl, trivial⟩ (fun _ _ h => h)
 ·
  have := h1
  refine Tr.exit ?_
  refine Fin.then_exit ?_
  refine Fin.then_exit ?_
  refine Fin.block_here ?_
  refine Fin.go (Tr.seq (Tr.reg0 ?_))
  refine Ch.mv rfl rfl rfl rfl rfl ?_
  refine Ch.as rfl rfl rfl rfl rfl ?_
  refine Ch.nil (Fin.go (Tr.ret ?_))
  refine Fin.retM1 rfl rfl ?_ (fun _ _ _ _ => rfl)
  · exact int_eq (by have := hye.1 (by omega); omega)
set_option maxRecDepth 20000 in
theorem w_pjoin {p : List Int} {R : Nat → Nat} {i k b0 : Nat} (hu : UF p R) (hi : i < 400) (hk : k < 400) : FunM Try.prog 45 [is (.pointer (some ⟨b0, 0, none⟩)), int ((i : Nat) : Int), int ((k : Nat) : Int)] (unit_) (cellsRes true b0 73 (arr p)) (fun _ => cellsRes true b0 73 (arr (p.set (max (R i) (R k)) ((min (R i) (R k) : Nat) : Int)))) := by
 refine FunM.of Try.func45 rfl rfl (by exact Nat.le_of_ble_eq_true rfl) fun M0 w0 S rs M1 w1 => ?_
 have hri := hu.rep.le i
 have hrk := hu.rep.le k
 have hpl := hu.len
 refine Tr.seq (Tr.regT ?_)
 refine TO.mv rfl rfl rfl rfl rfl ?_
 refine TO.mv rfl rfl rfl rfl rfl ?_
 refine TO.efc 0 rfl rfl (by decide) (ef_callc rfl rfl (by decide) rfl (w_proot hu hi) ⟨ke rfl, ke rfl, trivial⟩) ?_
 refine TO.mv rfl rfl rfl rfl rfl ?_
 refine TO.mv rfl rfl rfl rfl rfl ?_
 refine TO.efc 0 rfl rfl (by decide) (ef_callc rfl rfl (by decide) rfl (w_proot hu hk) ⟨ke rfl, ke rfl, trivial⟩) ?_
 refine TO.as rfl rfl rfl rfl rfl ?_
 refine TO.as rfl rfl rfl rfl rfl ?_
 refine TO.nil (Fin.go (Tr.regT ?_))
 iterate 3 refine TO.mv rfl rfl rfl rfl rfl ?_
 refine TO.oo rfl rfl rfl (ok_max rfl (vl rfl) (vl rfl)) ?_
 refine TO.mv rfl rfl rfl rfl rfl ?_
 refine TO.mv rfl rfl rfl rfl rfl ?_
 refine TO.oo rfl rfl rfl (ok_min rfl (vl rfl) (vl rfl)) ?_
 refine TO.oo rfl rfl rfl (okp_nilCheck rfl (vl rfl)) ?_
 refine TO.oo rfl rfl rfl (okp_indexArr rfl Try.underlying73 sz3 (vl rfl) (vl rfl) (by omega) (by omega)) ?_
 refine TO.ef0 0 rfl rfl (ef_store rfl rfl (vl rfl) (VL.le (vl rfl) (one_cellsP _)) sz3 rfl (by unfold arr; rw [List.length_map, hpl]; omega) (join_store (by omega) (by omega))) ?_
 refine TO.nil ?_
 exact Fin.retM0 rfl
end Go.Proofs.Ytgdlhajfajddiaa
namespace Go.Proofs.Ytgdlhajfajddiaa
open Go Go.RowKit Cp

abbrev encI (n : Int) : Value := .int .i64 n
theorem mapT_int : MapT Try.prog 54 3 3 encI where
  und := Try.underlying54
  zero := fun w => by kernel_rfl
  eq := fun a b w => by
    rw [show Op.equal 3 _ _ = Op.equalIn (9998 + 2) 3 _ _ from rfl]
    exact eq_intL Try.underlying3
  chk := fun e a w => by
    show (Instr.checkKey e (9999 + 1) 3 _).run _ w = _
    exact chk_int Try.underlying3 w
  und2 := ⟨_, Try.underlying3, .inr fun a b => by simp only [encI, Instr.sameNow, if_true]; congr 1⟩
  bits := fun a => by
    show Instr.sameBits (9999 + 1) (.int _ _) (.int _ _) = true
    simp [Instr.sameBits]


/-- What the map of machines holds after the first k findings. -/
def macM (l : List Fnd) : Nat → List (Int × Int)
  | 0 => []
  | k + 1 => match l[k]? with
    | none => macM l k
    | some f => if f.machine = 0 then macM l k else updM (macM l k) f.machine (k : Nat)
theorem macM_no {l : List Fnd} {k : Nat} {f : Fnd} (hf : l[k]? = some f) (h : f.machine = 0) : macM l (k + 1) = macM l k := by simp only [macM, hf, h, if_true]
theorem macM_yes {l : List Fnd} {k : Nat} {f : Fnd} (hf : l[k]? = some f) (h : ¬ f.machine = 0) : macM l (k + 1) = updM (macM l k) f.machine (k : Nat) := by simp only [macM, hf, h, if_false]


theorem upd_cons {κ : Type} [DecidableEq κ] (p : κ × Int) (es : List (κ × Int)) (k : κ) (v : Int) : updM (p :: es) k v = if k = p.1 then (k, v) :: es else p :: updM es k v := by
  unfold updM
  rw [List.findIdx?_cons]
  by_cases h : k = p.1
  · simp [h]
  · simp only [h, decide_false, Bool.false_eq_true, if_false]
    cases hf : es.findIdx? fun p => decide (k = p.1) with
    | none => simp
    | some i => simp
theorem look_upd {κ : Type} [DecidableEq κ] (k k' : κ) (v : Int) : ∀ es : List (κ × Int), Cp.look (updM es k v) k' = if k' = k then some v else Cp.look es k'
  | [] => by
    unfold updM Cp.look
    by_cases h : k' = k <;> simp [h]
  | p :: es => by
    have ih := look_upd k k' v es
    rw [upd_cons]
    unfold Cp.look at ih ⊢
    by_cases h : k = p.1
    · rw [if_pos h]
      by_cases h2 : k' = k
      · simp [h2]
      · have h3 : ¬ k' = p.1 := by rw [← h]; exact h2
        simp [h2, h3]
    · rw [if_neg h]
      by_cases h2 : k' = p.1
      · have h3 : ¬ k' = k := by rintro rfl; exact h h2
        simp [h2, h3]
        intro h4; exact absurd h4.symm h
      · rw [List.find?_cons_of_neg (by simpa using h2), ih, List.find?_cons_of_neg (by simpa using h2)]
theorem mac_look {l : List Fnd} {m : Int} (hm : ¬ m = 0) : ∀ k, Cp.look (macM l k) m = if lastM l m k < 0 then none else some (lastM l m k)
  | 0 => rfl
  | k + 1 => by
    have ih := mac_look (l := l) hm k
    have hin := lastM_in l m k
    cases hf : l[k]? with
    | none => simp only [macM, lastM, hf]; simpa using ih
    | some f =>
      by_cases h0 : f.machine = 0
      · rw [macM_no hf h0, ih]
        have : ¬ f.machine = m := by omega
        simp only [lastM, hf, Option.map_some, Option.some.injEq, this, if_false]
      · rw [macM_yes hf h0, look_upd, ih]
        by_cases h1 : m = f.machine
        · simp only [lastM, hf, Option.map_some, Option.some.injEq, h1.symm, if_true]
          rw [if_neg (by omega)]
        · have : ¬ f.machine = m := fun h => h1 h.symm
          simp only [lastM, hf, Option.map_some, Option.some.injEq, this, if_false]
          rw [if_neg h1]


/-- The parents after the first k findings. -/
def parK (l : List Fnd) (gap : Int) : Nat → List Int
  | 0 => idsTo 400
  | k + 1 => if edgeOf l gap k < 0 then parK l gap k else (parK l gap k).set (max (RR l gap k k) (RR l gap k (edgeOf l gap k).toNat)) ((min (RR l gap k k) (RR l gap k (edgeOf l gap k).toNat) : Nat) : Int)
theorem parK_same {l : List Fnd} {gap : Int} {k : Nat} (h : edgeOf l gap k < 0) : parK l gap (k + 1) = parK l gap k := by show (if _ then _ else _) = _; rw [if_pos h]
theorem parK_join {l : List Fnd} {gap : Int} {k : Nat} (h : ¬ edgeOf l gap k < 0) : parK l gap (k + 1) = (parK l gap k).set (max (RR l gap k k) (RR l gap k (edgeOf l gap k).toNat)) ((min (RR l gap k k) (RR l gap k (edgeOf l gap k).toNat) : Nat) : Int) := by show (if _ then _ else _) = _; rw [if_neg h]


theorem edge_lt {l : List Fnd} {gap : Int} (hn : l.length ≤ 400) {k : Nat} (hk : k < l.length) (h : ¬ edgeOf l gap k < 0) : (edgeOf l gap k).toNat < 400 := by
  obtain ⟨f, hf⟩ := at_ hk
  by_cases h0 : f.machine = 0
  · by_cases hnr : near l f gap < 0
    · rw [edge_loose hf h0 hnr] at h ⊢
      split at h
      · rename_i hc
        rw [if_pos hc]
        rcases prevK_in l gap k with h1 | ⟨_, h2, _⟩ <;> omega
      · omega
    · rw [edge_near hf h0 hnr]
      have := (near_get (f := f) (gap := gap) (l := l) (by omega)).1
      omega
  · rw [edge_own hf h0]
    rcases lastM_in l f.machine k with h1 | ⟨_, h2, _⟩ <;> omega
theorem parK_uf {l : List Fnd} {gap : Int} (hn : l.length ≤ 400) : ∀ k, k ≤ l.length → UF (parK l gap k) (RR l gap k)
  | 0, _ => UF.start
  | k + 1, hk => by
    have ih := parK_uf (gap := gap) hn k (by omega)
    by_cases h : edgeOf l gap k < 0
    · rw [parK_same h]; show UF _ (if _ then _ else _); rw [if_pos h]; exact ih
    · rw [parK_join h]; show UF _ (if _ then _ else _); rw [if_neg h]; exact ih.join (by omega) (edge_lt hn (by omega) h)

end Go.Proofs.Ytgdlhajfajddiaa
namespace Go.Proofs.Ytgdlhajfajddiaa
open Go Go.RowKit Cp

/-- New parents: an array that joins as the findings say. -/
def newPar (l : List Fnd) (gap : Int) (v : Value) : Res := match v with | .pointer (some a) => cellsRes true a.block 73 (arr (parK l gap l.length)) | _ => noRes
theorem idsTo_store {k : Nat} (hk : k < 400) : (arr (idsTo k)).take (0 + ((k : Nat) : Int).toNat * 1) ++ [int ((k : Nat) : Int)] ++ (arr (idsTo k)).drop (0 + ((k : Nat) : Int).toNat * 1 + 1) = arr (idsTo (k + 1)) := by
  rw [Int.toNat_natCast, Nat.zero_add, Nat.mul_one, arr_set (by rw [idsTo_len (by omega)]; exact hk), idsTo_set hk]
theorem idsTo_zero {ks : List Value} (h : ks = List.replicate 400 (.int .i64 0)) : ks.map is = arr (idsTo 0) := by
  subst h; unfold idsTo arr; rw [List.map_append, List.map_replicate, List.map_replicate]; rfl

set_option maxRecDepth 20000 in
theorem w_joined {l : List Fnd} {gap : Int} (hd : DaysIn l) (hn : l.length ≤ 400) : FunM Try.prog 21 [fnds l, int gap] (ex fun b => ptr b 0) (noRes) (newPar l gap) := by
 refine FunM.of Try.func21 rfl rfl (by exact Nat.le_of_ble_eq_true rfl) fun M0 w0 S rs M1 w1 => ?_
 refine Tr.lenm 0 rfl fun hlm_0 => ?_
 refine Tr.seq (Tr.reg0 ?_)
 refine Ch.as rfl rfl rfl rfl rfl ?_
 refine Ch.nil (Fin.go (Tr.seq (Tr.regT ?_)))
 refine TO.oo rfl rfl rfl (ok_build (rows := []) rfl bl73 zo73 trivial rfl) ?_
 refine TO.boxm rfl rfl (by decide) rfl (VL.le (vl rfl) (agg_cellsP _)) (fun b1 => ?_)
 refine TO.as rfl rfl rfl rfl rfl ?_
 refine TO.nil (Fin.go (Tr.seq (Tr.seq (Tr.reg0 ?_))))
 refine Ch.mv rfl rfl rfl rfl rfl ?_
 refine Ch.nil (Fin.go (Tr.block ?_))
 refine Tr.loopR [(0, _), (1, _), (5, _)] ⟨ke rfl, ke rfl, ke rfl, trivial⟩ (fun k : Nat => [(16, int ((k : Nat) : Int))]) (fun k : Nat => Hp M0 w0 S ((cellsRes true b1 73 (arr (idsTo k)) :: noRes :: extRes M1 w1 :: rs))) (fun k : Nat => k ≤ (400)) (fun k : Nat => (400) - k) 0 (Nat.zero_le _) ⟨ke rfl, trivial⟩ ((by rw [← idsTo_zero rfl]; exact fun _ _ h => h)) ?_
 rintro k hle_k
 refine Tr.seq (Tr.reg0 ?_)
 refine Ch.oo rfl rfl rfl (ok_int rfl (vl rfl) (vl rfl) rfl) ?_
 refine Ch.nil (Fin.go (Tr.seq ?_))
 refine Tr.cn rfl (fun h1 q1 => ?_) (fun h1 q1 => ?_)
 ·
  have hk_k : k < (400) := lt_of_dec h1
  refine Tr.skip (Fin.go (Tr.seq (Tr.block (Tr.seq (Tr.reg0 ?_)))))
  refine Ch.mv rfl rfl rfl rfl rfl ?_
  refine Ch.as rfl rfl rfl rfl rfl ?_
  refine Ch.nil (Fin.go (Tr.regT ?_))
  iterate 3 refine TO.mv rfl rfl rfl rfl rfl ?_
  refine TO.oo rfl rfl rfl (okp_nilCheck rfl (vl rfl)) ?_
  refine TO.oo rfl rfl rfl (okp_indexArr rfl Try.underlying73 sz3 (vl rfl) (vl rfl) (by omega) (by omega)) ?_
  refine TO.ef0 0 rfl rfl (ef_store rfl rfl (vl rfl) (VL.le (vl rfl) (one_cellsP _)) sz3 rfl (by unfold arr; rw [List.length_map, idsTo_len (by omega)]; omega) (idsTo_store hk_k)) ?_
  refine TO.nil (Fin.block (Fin.go (Tr.reg0 ?_)))
  first
   | (refine Ch.oo rfl rfl rfl (ok_add rfl (vl rfl) (vl rfl) ?hin) ?_; case hin => unfold InI; omega)
   | refine Ch.oo rfl rfl rfl (ok_int rfl (vl rfl) (vl rfl) rfl) ?_
  refine Ch.mv rfl rfl rfl rfl rfl ?_
  refine Ch.nil ?_
  exact Fin.fam (k + 1) ⟨hk_k, by omega⟩ ⟨⟨_, rfl, int_succ k⟩, ke rfl, ke rfl, ke rfl, trivial⟩ ((by exact fun _ _ h => h))
 ·
  have he_k : k = (400) := by have := ge_of_dec h1; omega
  subst he_k
  refine Tr.exit ?_
  refine Fin.then_exit ?_
  refine Fin.then_exit ?_
  refine Fin.block_here ?_
  refine Fin.go (Tr.seq (Tr.regT ?_))
  refine TO.mkmap encI rfl rfl (by decide) rfl (fun b2 => ?_)
  refine TO.as rfl rfl rfl rfl rfl ?_
  refine TO.nil (Fin.go (Tr.seq (Tr.reg0 ?_)))
  refine Ch.as rfl rfl rfl rfl rfl ?_
  refine Ch.nil (Fin.go (Tr.seq (Tr.seq (Tr.reg0 ?_))))
  refine Ch.mv rfl rfl rfl rfl rfl ?_
  first
   | refine Ch.oo rfl rfl rfl (ok_lenm rfl Try.underlying22 (vl rfl)) ?_
   | refine Ch.oo rfl rfl rfl (ok_len rfl Try.underlying22 (vl rfl)) ?_
  refine Ch.mv rfl rfl rfl rfl rfl ?_
  refine Ch.nil (Fin.go (Tr.block ?_))
  refine Tr.loopR [(0, _), (1, _), (5, _), (7, _), (26, _), (27, _)] ⟨ke rfl, ke rfl, ke rfl, ke rfl, ke rfl, ke rfl, trivial⟩ (fun k : Nat => [(28, int ((k : Nat) : Int)), (8, int (prevK l gap k))]) (fun k : Nat => Hp M0 w0 S ((mapR encI b2 (macM l k) :: cellsRes true b1 73 (arr (parK l gap k)) :: noRes :: extRes M1 w1 :: rs))) (fun k : Nat => k ≤ (l).length) (fun k : Nat => (l).length - k) 0 (Nat.zero_le _) ⟨ke rfl, ke rfl, trivial⟩ (fun _ _ h => h) ?_
  rintro k hle_k
  refine Tr.seq (Tr.reg0 ?_)
  refine Ch.oo rfl rfl rfl (ok_int rfl (vl rfl) (vl rfl) rfl) ?_
  refine Ch.nil (Fin.go (Tr.seq ?_))
  refine Tr.cn rfl (fun h2 q2 => ?_) (fun h2 q2 => ?_)
  ·
   have hk_k : k < (l).length := lt_of_dec h2
   obtain ⟨f, hx_k⟩ := at_ hk_k
   have hu := parK_uf (gap := gap) hn k (by omega)
   have hfd := days_at hd hx_k
   refine Tr.skip (Fin.go (Tr.seq (Tr.block (Tr.seq (Tr.regT ?_)))))
   refine TO.mv rfl rfl rfl rfl rfl ?_
   refine TO.oo rfl rfl rfl (ok_indexAddr rfl Try.underlying22 sz45 (vl rfl) (vl rfl) (by omega) (by first | exact row_at (by assumption) | exact row_atI (by assumption) | assumption)) ?_
   refine TO.oo rfl rfl rfl (ok_loadA rfl agg45 sz45 (vl rfl) rfl rfl) ?_
   refine TO.alloc rfl rfl (by decide) rfl z45 zo45 (fun b3 => ?_)
   refine TO.as rfl rfl rfl rfl rfl ?_
   refine TO.store_all 0 rfl rfl rfl (vl rfl) (VL.le (vl rfl) (agg_cellsP _)) rfl sz45 rfl rfl ?_
   refine TO.freeze 0 10 rfl rfl ?_
   refine TO.nil (Fin.go ?_)
   refine Tr.w10 0 1 5 7 8 9 10 26 27 28 rfl rfl rfl rfl rfl rfl rfl rfl rfl rfl ?_
   refine Tr.seq (Tr.seq (Tr.reg0 ?_))
   refine Ch.oo rfl rfl rfl (ok_fieldAddr rfl fo45_2 (vl rfl) rfl) ?_
   refine Ch.oo rfl rfl rfl (ok_load1 rfl one3 (vl rfl)) ?_
   refine Ch.oo rfl rfl rfl (ok_int rfl (vl rfl) (vl rfl) rfl) ?_
   refine Ch.nil (Fin.go ?_)
   refine Tr.cn rfl (fun h3 q3 => ?_) (fun h3 q3 => ?_)
   ·
    have he := edge_own (gap := gap) hx_k q3
    have hmo := mOf_own (gap := gap) hx_k q3
    have hm1 := macM_yes hx_k q3
    have hv1 : prevK l gap (k + 1) = prevK l gap k := if_neg (by rw [hmo]; exact q3)
    have hL := mac_look (l := l) q3 k
    have hlin := lastM_in l f.machine k
    refine Tr.seq (Tr.seq (Tr.regT ?_))
    refine TO.mv rfl rfl rfl rfl rfl ?_
    refine TO.oo rfl rfl rfl (ok_fieldAddr rfl fo45_2 (vl rfl) rfl) ?_
    refine TO.oo rfl rfl rfl (ok_load1 rfl one3 (vl rfl)) ?_
    refine TO.rd 0 rfl rfl rfl (by decide) (rd_lookup (f.machine) mapT_int rfl (vl rfl) (vl rfl) (fun _ _ _ h => h)) ?_
    refine TO.mv rfl rfl rfl rfl rfl ?_
    refine TO.oo rfl rfl rfl (ok_extract rfl (vl rfl) rfl) ?_
    refine TO.oo rfl rfl rfl (ok_extract rfl (vl rfl) rfl) ?_
    refine TO.as rfl rfl rfl rfl rfl ?_
    refine TO.as rfl rfl rfl rfl rfl ?_
    refine TO.nil (Fin.go ?_)
    refine Tr.w12 0 1 5 7 8 9 10 11 12 26 27 28 rfl rfl rfl rfl rfl rfl rfl rfl rfl rfl rfl rfl ?_
    refine Tr.seq (Tr.reg0 ?_)
    refine Ch.mv rfl rfl rfl rfl rfl ?_
    refine Ch.nil (Fin.go ?_)
    refine Tr.cn rfl (fun h4 q4 => ?_) (fun h4 q4 => ?_)
    ·
     have hlm : ¬ lastM l f.machine k < 0 := by intro hlt; rw [hL, if_pos hlt] at q4; cases q4
     rw [if_neg hlm] at hL
     have hp1 := parK_join (l := l) (gap := gap) (k := k) (by rw [he]; exact hlm)
     rw [he] at hp1
     refine Tr.regT ?_
     iterate 3 refine TO.mv rfl rfl rfl rfl rfl ?_
     refine TO.efc 1 rfl rfl (by decide) (ef_callc rfl rfl (by decide) rfl (w_pjoin (i := k) (k := (lastM l f.machine k).toNat) hu (by omega) (by omega)) ⟨ke rfl, ke rfl, ⟨_, rfl, int_eq (by rw [hL]; show (lastM l f.machine k : Int) = _; omega)⟩, trivial⟩) ?_
     refine TO.nil (Fin.go ?_)
     refine Tr.w10 0 1 5 7 8 9 10 26 27 28 rfl rfl rfl rfl rfl rfl rfl rfl rfl rfl ?_
     refine Tr.seq (Tr.regT ?_)
     refine TO.mv rfl rfl rfl rfl rfl ?_
     refine TO.oo rfl rfl rfl (ok_fieldAddr rfl fo45_2 (vl rfl) rfl) ?_
     refine TO.oo rfl rfl rfl (ok_load1 rfl one3 (vl rfl)) ?_
     refine TO.mv rfl rfl rfl rfl rfl ?_
     refine TO.ef0 0 rfl rfl (ef_mapupd (f.machine) mapT_int rfl rfl rfl (vl rfl) (vl rfl) (fun _ _ _ h => h) (vl rfl)) ?_
     refine TO.nil (Fin.go ?_)
     refine Tr.w8 0 1 5 7 8 26 27 28 rfl rfl rfl rfl rfl rfl rfl rfl ?_
     refine Tr.exit ?_
     refine Fin.then_exit ?_
     refine Fin.block_here ?_
     refine Fin.go (Tr.reg0 ?_)
     first
      | (refine Ch.oo rfl rfl rfl (ok_add rfl (vl rfl) (vl rfl) ?hin) ?_; case hin => unfold InI; omega)
      | refine Ch.oo rfl rfl rfl (ok_int rfl (vl rfl) (vl rfl) rfl) ?_
     refine Ch.mv rfl rfl rfl rfl rfl ?_
     refine Ch.nil ?_
     exact Fin.fam (k + 1) ⟨hk_k, by omega⟩ ⟨⟨_, rfl, int_succ k⟩, ⟨_, rfl, int_eq hv1.symm⟩, ke rfl, ke rfl, ke rfl, ke rfl, ke rfl, ke rfl, trivial⟩ ((by rw [hm1, hp1]; exact fun _ _ h => h))
    ·
     have hlm : lastM l f.machine k < 0 := by rcases Int.lt_or_le (lastM l f.machine k) 0 with h1 | h1; exact h1; (rw [hL, if_neg (by omega)] at q4; cases q4)
     have hp1 := parK_same (l := l) (gap := gap) (k := k) (by rw [he]; exact hlm)
     refine Tr.skip (Fin.go (Tr.seq (Tr.regT ?_)))
     refine TO.mv rfl rfl rfl rfl rfl ?_
     refine TO.oo rfl rfl rfl (ok_fieldAddr rfl fo45_2 (vl rfl) rfl) ?_
     refine TO.oo rfl rfl rfl (ok_load1 rfl one3 (vl rfl)) ?_
     refine TO.mv rfl rfl rfl rfl rfl ?_
     refine TO.ef0 0 rfl rfl (ef_mapupd (f.machine) mapT_int rfl rfl rfl (vl rfl) (vl rfl) (fun _ _ _ h => h) (vl rfl)) ?_
     refine TO.nil (Fin.go ?_)
     refine Tr.w8 0 1 5 7 8 26 27 28 rfl rfl rfl rfl rfl rfl rfl rfl ?_
     refine Tr.exit ?_
     refine Fin.then_exit ?_
     refine Fin.block_here ?_
     refine Fin.go (Tr.reg0 ?_)
     first
      | (refine Ch.oo rfl rfl rfl (ok_add rfl (vl rfl) (vl rfl) ?hin) ?_; case hin => unfold InI; omega)
      | refine Ch.oo rfl rfl rfl (ok_int rfl (vl rfl) (vl rfl) rfl) ?_
     refine Ch.mv rfl rfl rfl rfl rfl ?_
     refine Ch.nil ?_
     exact Fin.fam (k + 1) ⟨hk_k, by omega⟩ ⟨⟨_, rfl, int_succ k⟩, ⟨_, rfl, int_eq hv1.symm⟩, ke rfl, ke rfl, ke rfl, ke rfl, ke rfl, ke rfl, trivial⟩ ((by rw [hm1, hp1]; exact fun _ _ h => h))
   ·
    have hm1 := macM_no hx_k q3
    have hmz : f.machine = 0 := q3
    refine Tr.skip (Fin.go (Tr.seq (Tr.seq (Tr.reg0 ?_))))
    refine Ch.mv rfl rfl rfl rfl rfl ?_
    refine Ch.oo rfl rfl rfl (ok_loadA rfl agg45 sz45 (vl rfl) rfl rfl) ?_
    refine Ch.mv rfl rfl rfl rfl rfl ?_
    refine Ch.oo rfl rfl rfl (ok_call rfl (w_Inear (by assumption) (by assumption)) ⟨ke rfl, ke rfl, ke rfl, trivial⟩) ?_
    refine Ch.as rfl rfl rfl rfl rfl ?_
    refine Ch.nil (Fin.go ?_)
    refine Tr.w11 0 1 5 7 8 9 10 13 26 27 28 rfl rfl rfl rfl rfl rfl rfl rfl rfl rfl rfl ?_
    refine Tr.seq (Tr.reg0 ?_)
    refine Ch.mv rfl rfl rfl rfl rfl ?_
    refine Ch.oo rfl rfl rfl (ok_int rfl (vl rfl) (vl rfl) rfl) ?_
    refine Ch.nil (Fin.go ?_)
    refine Tr.cn rfl (fun h5 q5 => ?_) (fun h5 q5 => ?_)
    ·
     have he := edge_near (gap := gap) hx_k hmz (by omega)
     have hp1 := parK_join (l := l) (gap := gap) (k := k) (by rw [he]; omega)
     rw [he] at hp1
     obtain ⟨hgl, g, hg, hg0, _⟩ := near_get (l := l) (f := f) (gap := gap) (by omega)
     have hv1 : prevK l gap (k + 1) = prevK l gap k := if_neg (by rw [mOf_near hx_k hmz (by omega) hg]; exact hg0)
     refine Tr.seq (Tr.regT ?_)
     iterate 3 refine TO.mv rfl rfl rfl rfl rfl ?_
     refine TO.efc 1 rfl rfl (by decide) (ef_callc rfl rfl (by decide) rfl (w_pjoin (i := k) (k := (near l f gap).toNat) hu (by omega) (by omega)) ⟨ke rfl, ke rfl, ⟨_, rfl, int_eq (by omega)⟩, trivial⟩) ?_
     refine TO.nil (Fin.go ?_)
     refine Tr.w8 0 1 5 7 8 26 27 28 rfl rfl rfl rfl rfl rfl rfl rfl ?_
     refine Tr.exit ?_
     refine Fin.then_exit ?_
     refine Fin.block_here ?_
     refine Fin.go (Tr.reg0 ?_)
     first
      | (refine Ch.oo rfl rfl rfl (ok_add rfl (vl rfl) (vl rfl) ?hin) ?_; case hin => unfold InI; omega)
      | refine Ch.oo rfl rfl rfl (ok_int rfl (vl rfl) (vl rfl) rfl) ?_
     refine Ch.mv rfl rfl rfl rfl rfl ?_
     refine Ch.nil ?_
     exact Fin.fam (k + 1) ⟨hk_k, by omega⟩ ⟨⟨_, rfl, int_succ k⟩, ⟨_, rfl, int_eq hv1.symm⟩, ke rfl, ke rfl, ke rfl, ke rfl, ke rfl, ke rfl, trivial⟩ ((by rw [hm1, hp1]; exact fun _ _ h => h))
    ·
     have he := edge_loose (gap := gap) hx_k hmz (by omega)
     have hv1 : prevK l gap (k + 1) = (k : Nat) := if_pos (mOf_loose hx_k hmz (by omega))
     have hpin := prevK_in l gap k
     refine Tr.skip (Fin.go (Tr.seq (Tr.seq ?_)))
     refine Tr.reg1 mixed (by kernel_rfl) ?_
     refine Ch.mv rfl rfl rfl rfl rfl ?_
     refine Ch.oo rfl rfl rfl (ok_int rfl (vl rfl) (vl rfl) rfl) ?_
     refine Ch.mv rfl rfl rfl rfl rfl ?_
     refine Ch.cs 64 rfl (fun h6 q6 => ?_) (fun h6 q6 => ?_)
     ·
      obtain ⟨fb, hfb⟩ := at_ (l := l) (k := (prevK l gap k).toNat) (by omega)
      have hfbd := days_at hd hfb
      have hnx : nextTo l gap (prevK l gap k).toNat k = decide (fb.host = f.host ∧ dist f fb ≤ gap) := by unfold nextTo; rw [hfb, hx_k]
      refine Ch.ym h6 rfl rfl rfl rfl rfl rfl rfl ?_
      refine Ch.ym h6 rfl rfl rfl rfl rfl rfl rfl ?_
      refine Ch.y h6 rfl rfl rfl rfl rfl (ok_indexAddr rfl Try.underlying22 sz45 (vl rfl) (vl rfl) (by omega) (row_atI hfb)) ?_
      refine Ch.y h6 rfl rfl rfl rfl rfl (ok_fieldAddr rfl fo45_1 (vl rfl) rfl) ?_
      refine Ch.y h6 rfl rfl rfl rfl rfl (ok_load1 rfl one9 (vl rfl)) ?_
      refine Ch.y h6 rfl rfl rfl rfl rfl (ok_fieldAddr rfl fo45_1 (vl rfl) rfl) ?_
      refine Ch.y h6 rfl rfl rfl rfl rfl (ok_load1 rfl one9 (vl rfl)) ?_
      refine Ch.y h6 rfl rfl rfl rfl rfl (ok_eqs rfl (vl rfl) (vl rfl)) ?_
      refine Ch.oo rfl rfl rfl (ok_pick_t rfl (vl rfl) h6 (vl rfl)) ?_
      refine Ch.mv rfl rfl rfl rfl rfl ?_
      refine Ch.cs 74 rfl (fun h7 q7 => ?_) (fun h7 q7 => ?_)
      ·
       refine Ch.y h7 rfl rfl rfl rfl rfl (ok_loadA rfl agg45 sz45 (vl rfl) rfl rfl) ?_
       refine Ch.ym h7 rfl rfl rfl rfl rfl rfl rfl ?_
       refine Ch.ym h7 rfl rfl rfl rfl rfl rfl rfl ?_
       refine Ch.y h7 rfl rfl rfl rfl rfl (ok_indexAddr rfl Try.underlying22 sz45 (vl rfl) (vl rfl) (by omega) (row_atI hfb)) ?_
       refine Ch.y h7 rfl rfl rfl rfl rfl (ok_loadA rfl agg45 sz45 (vl rfl) rfl rfl) ?_
       refine Ch.y h7 rfl rfl rfl rfl rfl (ok_call rfl (w_distance (by assumption) (by assumption)) ⟨ke rfl, ke rfl, trivial⟩) ?_
       refine Ch.ym h7 rfl rfl rfl rfl rfl rfl rfl ?_
       refine Ch.y h7 rfl rfl rfl rfl rfl (ok_int rfl (vl rfl) (vl rfl) rfl) ?_
       refine Ch.oo rfl rfl rfl (ok_pick_t rfl (vl rfl) h7 (vl rfl)) ?_
       refine Ch.nil (Fin.go ?_)
       refine Tr.w10 0 1 5 7 8 9 26 27 28 83 rfl rfl rfl rfl rfl rfl rfl rfl rfl rfl ?_
       refine Tr.cn rfl (fun h8 q8 => ?_) (fun h8 q8 => ?_)
       ·
        rw [if_pos ⟨by omega, by rw [hnx, decide_eq_true_eq]; exact ⟨by assumption, by omega⟩⟩] at he
        have hp1 := parK_join (l := l) (gap := gap) (k := k) (by rw [he]; omega)
        rw [he] at hp1
        refine Tr.regT ?_
        iterate 3 refine TO.mv rfl rfl rfl rfl rfl ?_
        refine TO.efc 1 rfl rfl (by decide) (ef_callc rfl rfl (by decide) rfl (w_pjoin (i := k) (k := (prevK l gap k).toNat) hu (by omega) (by omega)) ⟨ke rfl, ke rfl, ⟨_, rfl, int_eq (by omega)⟩, trivial⟩) ?_
        refine TO.nil (Fin.go ?_)
        refine Tr.w8 0 1 5 7 9 26 27 28 rfl rfl rfl rfl rfl rfl rfl rfl ?_
        refine Tr.reg0 ?_
        refine Ch.mv rfl rfl rfl rfl rfl ?_
        refine Ch.as rfl rfl rfl rfl rfl ?_
        refine Ch.nil (Fin.block (Fin.go (Tr.reg0 ?_)))
        first
         | (refine Ch.oo rfl rfl rfl (ok_add rfl (vl rfl) (vl rfl) ?hin) ?_; case hin => unfold InI; omega)
         | refine Ch.oo rfl rfl rfl (ok_int rfl (vl rfl) (vl rfl) rfl) ?_
        refine Ch.mv rfl rfl rfl rfl rfl ?_
        refine Ch.nil ?_
        exact Fin.fam (k + 1) ⟨hk_k, by omega⟩ ⟨⟨_, rfl, int_succ k⟩, ⟨_, rfl, int_eq hv1.symm⟩, ke rfl, ke rfl, ke rfl, ke rfl, ke rfl, ke rfl, trivial⟩ ((by rw [hm1, hp1]; exact fun _ _ h => h))
       ·
        rw [if_neg (by rintro ⟨h1, h2⟩; first | omega | (rw [hnx, decide_eq_true_eq] at h2; first | exact absurd h2.1 (by assumption) | omega))] at he
        have hp1 := parK_same (l := l) (gap := gap) (k := k) (by rw [he]; omega)
        refine Tr.skip (Fin.go (Tr.reg0 ?_))
        refine Ch.mv rfl rfl rfl rfl rfl ?_
        refine Ch.as rfl rfl rfl rfl rfl ?_
        refine Ch.nil (Fin.block (Fin.go (Tr.reg0 ?_)))
        first
         | (refine Ch.oo rfl rfl rfl (ok_add rfl (vl rfl) (vl rfl) ?hin) ?_; case hin => unfold InI; omega)
         | refine Ch.oo rfl rfl rfl (ok_int rfl (vl rfl) (vl rfl) rfl) ?_
        refine Ch.mv rfl rfl rfl rfl rfl ?_
        refine Ch.nil ?_
        exact Fin.fam (k + 1) ⟨hk_k, by omega⟩ ⟨⟨_, rfl, int_succ k⟩, ⟨_, rfl, int_eq hv1.symm⟩, ke rfl, ke rfl, ke rfl, ke rfl, ke rfl, ke rfl, trivial⟩ ((by rw [hm1, hp1]; exact fun _ _ h => h))
      ·
       rw [if_neg (by rintro ⟨h1, h2⟩; first | omega | (rw [hnx, decide_eq_true_eq] at h2; first | exact absurd h2.1 (by assumption) | omega))] at he
       have hp1 := parK_same (l := l) (gap := gap) (k := k) (by rw [he]; omega)
       iterate 8 refine Ch.nt h7 rfl rfl rfl rfl rfl ?_
       refine Ch.oo rfl rfl rfl (ok_pick_f rfl (vl rfl) h7 (vl rfl)) ?_
       refine Ch.nil (Fin.go ?_)
       refine Tr.w10 0 1 5 7 8 9 26 27 28 83 rfl rfl rfl rfl rfl rfl rfl rfl rfl rfl ?_
       refine Tr.cond rfl (fun h => nomatch h) (fun _ => ?_)
       refine Tr.skip (Fin.go (Tr.reg0 ?_))
       refine Ch.mv rfl rfl rfl rfl rfl ?_
       refine Ch.as rfl rfl rfl rfl rfl ?_
       refine Ch.nil (Fin.block (Fin.go (Tr.reg0 ?_)))
       first
        | (refine Ch.oo rfl rfl rfl (ok_add rfl (vl rfl) (vl rfl) ?hin) ?_; case hin => unfold InI; omega)
        | refine Ch.oo rfl rfl rfl (ok_int rfl (vl rfl) (vl rfl) rfl) ?_
       refine Ch.mv rfl rfl rfl rfl rfl ?_
       refine Ch.nil ?_
       exact Fin.fam (k + 1) ⟨hk_k, by omega⟩ ⟨⟨_, rfl, int_succ k⟩, ⟨_, rfl, int_eq hv1.symm⟩, ke rfl, ke rfl, ke rfl, ke rfl, ke rfl, ke rfl, trivial⟩ ((by rw [hm1, hp1]; exact fun _ _ h => h))
     ·
      rw [if_neg (by rintro ⟨h1, h2⟩; first | omega | (rw [hnx, decide_eq_true_eq] at h2; first | exact absurd h2.1 (by assumption) | omega))] at he
      have hp1 := parK_same (l := l) (gap := gap) (k := k) (by rw [he]; omega)
      iterate 8 refine Ch.nt h6 rfl rfl rfl rfl rfl ?_
      refine Ch.oo rfl rfl rfl (ok_pick_f rfl (vl rfl) h6 (vl rfl)) ?_
      refine Ch.mv rfl rfl rfl rfl rfl ?_
      iterate 8 refine Ch.nd rfl rfl rfl rfl rfl rfl ?_
      refine Ch.oo rfl rfl rfl (ok_pick_f rfl (vl rfl) rfl (vl rfl)) ?_
      refine Ch.nil (Fin.go ?_)
      refine Tr.w10 0 1 5 7 8 9 26 27 28 83 rfl rfl rfl rfl rfl rfl rfl rfl rfl rfl ?_
      refine Tr.cond rfl (fun h => nomatch h) (fun _ => ?_)
      refine Tr.skip (Fin.go (Tr.reg0 ?_))
      refine Ch.mv rfl rfl rfl rfl rfl ?_
      refine Ch.as rfl rfl rfl rfl rfl ?_
      refine Ch.nil (Fin.block (Fin.go (Tr.reg0 ?_)))
      first
       | (refine Ch.oo rfl rfl rfl (ok_add rfl (vl rfl) (vl rfl) ?hin) ?_; case hin => unfold InI; omega)
       | refine Ch.oo rfl rfl rfl (ok_int rfl (vl rfl) (vl rfl) rfl) ?_
      refine Ch.mv rfl rfl rfl rfl rfl ?_
      refine Ch.nil ?_
      exact Fin.fam (k + 1) ⟨hk_k, by omega⟩ ⟨⟨_, rfl, int_succ k⟩, ⟨_, rfl, int_eq hv1.symm⟩, ke rfl, ke rfl, ke rfl, ke rfl, ke rfl, ke rfl, trivial⟩ ((by rw [hm1, hp1]; exact fun _ _ h => h))
  ·
   have he_k : k = (l).length := by have := ge_of_dec h2; omega
   subst he_k
   refine Tr.exit ?_
   refine Fin.then_exit ?_
   refine Fin.then_exit ?_
   refine Fin.block_here ?_
   refine Fin.go (Tr.seq (Tr.reg0 ?_))
   refine Ch.mv rfl rfl rfl rfl rfl ?_
   refine Ch.as rfl rfl rfl rfl rfl ?_
   refine Ch.nil (Fin.go (Tr.ret ?_))
   refine Fin.drop 2 ?_
   refine Fin.retY1 [_] rfl (RVal.tmp rfl (Pr.le_refl _)) ?_ (by rintro _ _ _ rfl; rfl)
   · exact ex_in b1 (Pr.le_refl _)
end Go.Proofs.Ytgdlhajfajddiaa
namespace Go.Proofs.Ytgdlhajfajddiaa
open Go Go.RowKit Cp

set_option maxRecDepth 20000 in
theorem w_lessI {a b : Int}  : Fun Try.prog 87 [int a, int b] (bool (decide (a < b))) := by
 refine Fun.of Try.func87 rfl rfl (by exact Nat.le_of_ble_eq_true rfl) fun M0 w0 => ?_
 refine Tr.seq (Tr.reg0 ?_)
 refine Ch.as rfl rfl rfl rfl rfl ?_
 refine Ch.nil (Fin.go (Tr.seq (Tr.reg0 ?_)))
 refine Ch.mv rfl rfl rfl rfl rfl ?_
 refine Ch.oo rfl rfl rfl (ok_call rfl (w_isNaNI) ⟨ke rfl, trivial⟩) ?_
 refine Ch.mv rfl rfl rfl rfl rfl ?_
 refine Ch.cs 7 rfl (fun h1 q1 => ?_) (fun h1 q1 => ?_)
 ·
  exact absurd h1 (by decide)
 ·
  iterate 3 refine Ch.nt h1 rfl rfl rfl rfl rfl ?_
  refine Ch.oo rfl rfl rfl (ok_pick_f rfl (vl rfl) h1 (vl rfl)) ?_
  refine Ch.mv rfl rfl rfl rfl rfl ?_
  refine Ch.ym rfl rfl rfl rfl rfl rfl rfl rfl ?_
  refine Ch.ym rfl rfl rfl rfl rfl rfl rfl rfl ?_
  refine Ch.y rfl rfl rfl rfl rfl rfl (ok_int rfl (vl rfl) (vl rfl) rfl) ?_
  refine Ch.oo rfl rfl rfl (ok_pick_f rfl (vl rfl) rfl (vl rfl)) ?_
  refine Ch.as rfl rfl rfl rfl rfl ?_
  refine Ch.nil (Fin.go ?_)
  refine Tr.w1 4 rfl ?_
  refine Tr.ret ?_
  refine Fin.ret1 rfl (OutW.bse _ _) rfl ?_
  · first | exact Pr.le_refl _ | (refine int_eq ?_; simp_all; done) | (refine bool_eq ?_; simp_all; done) | (refine bool_eq ?_; simp_all; omega) | (refine int_eq ?_; omega)
end Go.Proofs.Ytgdlhajfajddiaa
namespace Cp
open Go Go.RowKit Go.Great
section
variable {P : Program} {n : Nat} {E : Env} {M0 : Av} {w0 : World} {S : Nat → Prop} {rs : List Res} {o : Oper}
theorem okb_cap {I : Asn} {t e : TypeId} {x : Operand} {A : Option Addr} {m cap : Nat} (ho : o.op = .call { callee := .builtin .cap, args := #[x], argTypes := #[t] }) (ht : P.underlying t = some (.slice e)) (hx : VL E x (is (.slice A m cap))) : OpOK P I o E (int cap) :=
  OpOK.same fun M w a he _ => by
    have h1 : a.eval x = _ := hx.ev he (by simp [ho, Op.operands, Call.operands])
    exact ⟨.int .i64 cap, by simp [execOp, ho, resolve, invoke, builtin, Builtin.cap_, h1, run_underlying ht, goInt], rfl⟩
theorem okb_sliceCap {I : Asn} {t e : TypeId} {x y : Operand} {k : IntKind} {h : Int} {sz b m cap : Nat} (ho : o.op = .slice t x none (some y) none) (ht : P.underlying t = some (.slice e)) (hz : sizeB P e = some sz) (hx : VL E x (is (.slice (some ⟨b, 0, none⟩) m cap))) (hy : VL E y (is (.int k h))) (h0 : 0 ≤ h) (hl : h ≤ cap) (h1m : 0 < cap) :
    OpOK P I o E (is (.slice (some ⟨b, 0, none⟩) h.toNat cap)) :=
  OpOK.same fun M w a he _ => by
    have h1 : a.eval x = _ := hx.ev he (by simp [ho, Op.operands])
    have h3 : a.eval y = _ := hy.ev he (by simp [ho, Op.operands])
    refine ⟨_, ?_, rfl⟩
    simp [execOp, ho, h1, h3, Instr.sliceAt, Instr.slice, run_underlying ht, Instr.sliceBounds, Instr.sliceBound, asIntOf, h0, hl, run_size hz]
    intro _; rfl
theorem okb_sliceAny {I : Asn} {t e : TypeId} {x y : Operand} {k : IntKind} {l : Int} {sz b m cap : Nat} (ho : o.op = .slice t x (some y) none none) (ht : P.underlying t = some (.slice e)) (hz : sizeB P e = some sz) (hx : VL E x (is (.slice (some ⟨b, 0, none⟩) m cap))) (hy : VL E y (is (.int k l))) (h0 : 0 ≤ l) (hl : l ≤ m) (hc : m ≤ cap) :
    OpOK P I o E (lens (m - l.toNat)) :=
  OpOK.same fun M w a he _ => by
    have h1 : a.eval x = _ := hx.ev he (by simp [ho, Op.operands])
    have h3 : a.eval y = _ := hy.ev he (by simp [ho, Op.operands])
    have hb : l ≤ (m : Int) := by omega
    refine ⟨.slice (if cap = l.toNat then some ⟨b, 0, none⟩ else some ⟨b, l.toNat * sz, none⟩) (m - l.toNat) (cap - l.toNat), ?_, _, _, rfl⟩
    by_cases hne : cap = l.toNat <;>
    simp [execOp, ho, h1, h3, Instr.sliceAt, Instr.slice, run_underlying ht, Instr.sliceBounds, Instr.sliceBound, asIntOf, h0, hb, run_size hz, hne, addr_add]
theorem Tr.closeG {Q : Exit → Act → World → Prop} {c : Code} {e : TypeId} {sz b cap m : Nat} {rows : List (List Pr)} {sp : List Value} {ps : List Pr} (j : Nat) (hj : rs[j]? = some (cellsRes true b e ps)) (hps : ps = rows.flatten ++ sp.map is) (hm : rows.length = m) (h1 : m ≤ cap) (h2 : cap ≤ maxLen) (h3 : sp.length = (cap - m) * sz)
    (k : Tr P n E (Hp M0 w0 S (rs.set j (ownRes e sz rows (.slice (some ⟨b, 0, none⟩) m cap)))) c Q) : Tr P n E (Hp M0 w0 S rs) c Q := Tr.conv (fun _ _ hs => hs.closeG j (by rw [hj, hps]) hm h1 h2 h3) k
theorem Fin.closeH {Q : Exit → Act → World → Prop} {x : Exit} {e : TypeId} {sz b cap m : Nat} {rows : List (List Pr)} {sp : List Value} {ps : List Pr} (j : Nat) (hj : rs[j]? = some (cellsRes true b e ps)) (hps : ps = rows.flatten ++ sp.map is) (hm : rows.length = m) (h1 : m ≤ cap) (h2 : cap ≤ maxLen) (h3 : sp.length = (cap - m) * sz)
    (k : Fin n E (Hp M0 w0 S (rs.set j (ownRes e sz rows (.slice (some ⟨b, 0, none⟩) m cap)))) Q x) : Fin n E (Hp M0 w0 S rs) Q x := Fin.conv (fun _ _ hs => hs.closeG j (by rw [hj, hps]) hm h1 h2 h3) k
/-- A slice of ours is nil, or it lies in a block. -/
theorem FunM.own_cases {f : FuncId} {e : TypeId} {sz : Nat} {rows : List (List Pr)} {v : Value} {p : Pr} {ps : List Pr} {res : Pr} {R' : Value → Res} (hE : Entry P f) (h0 : rows = [] → v = .slice none 0 0 → FunM P f (is (.slice none 0 0) :: ps) res noRes R')
    (h1 : ∀ (b cap : Nat) (sp : List Value), v = .slice (some ⟨b, 0, none⟩) rows.length cap → rows.length ≤ cap → cap ≤ maxLen → sp.length = (cap - rows.length) * sz → FunM P f (andIs (.slice (some ⟨b, 0, none⟩) rows.length cap) (lens rows.length) :: ps) res (cellsRes true b e (rows.flatten ++ sp.map is)) R') :
    FunM P f (andIs v p :: ps) res (ownRes e sz rows v) R' := by
  refine ⟨hE, fun M0 w0 S rs M w vs hI hv => ?_⟩
  match vs, hv with
  | u0 :: vs1, hv1 =>
    obtain ⟨hu0, hv2⟩ := hv1
    obtain rfl : u0 = v := hu0.1
    have hb0 := hI.hold _ (List.mem_cons_self ..)
    rcases hb0.1 with ⟨hnil, rfl⟩ | hmut
    · have hI' := hI.swap1 (i := 0) (r' := noRes) rfl rfl rfl trivial
      exact (h0 hnil rfl).2 M0 w0 S rs M w _ hI' (show HL M w (_ :: _) (_ :: vs1) from ⟨rfl, hv2⟩)
    · obtain ⟨b, cap, spare, rfl, hnc, hcm, hsp, hcr⟩ := hmut
      have hC := hI.swap1 (i := 0) (r' := cellsRes true b e (rows.flatten ++ spare.map is)) rfl rfl rfl hcr
      exact (h1 b cap spare rfl hnc hcm hsp).2 M0 w0 S rs M w _ hC (show HL M w (_ :: _) (_ :: vs1) from ⟨⟨rfl, _, _, rfl⟩, hv2⟩)
theorem FunM.own_of_mut {f : FuncId} {e : TypeId} {sz : Nat} {rows : List (List Pr)} {ps : List Pr} {res : Pr} {R : Res} (h : FunM P f ps res R (fun v => mutRes e sz rows v)) : FunM P f ps res R (fun v => ownRes e sz rows v) := by
  refine ⟨h.1, fun M0 w0 S rs M w vs hI hv => (h.2 M0 w0 S rs M w vs hI hv).mono ?_⟩
  rintro e' w' ⟨v, M', rfl, h2, h3, h4⟩
  exact ⟨v, M', rfl, h2, h3, h4.swap1 (i := 0) rfl rfl rfl (.inr (h4.hold _ (List.mem_cons_self ..)).1)⟩
/-- .. and one that only reads it. -/
theorem FunM.own_read {f : FuncId} {e : TypeId} {sz : Nat} {rows : List (List Pr)} {v : Value} {p : Pr} {ps : List Pr} {res : Pr} [Free res] (hE : Entry P f) (h0 : rows = [] → v = .slice none 0 0 → Fun P f (is (.slice none 0 0) :: ps) res)
    (h1 : ∀ (b cap : Nat) (sp : List Value), v = .slice (some ⟨b, 0, none⟩) rows.length cap → rows.length ≤ cap → cap ≤ maxLen → sp.length = (cap - rows.length) * sz → FunM P f (andIs (.slice (some ⟨b, 0, none⟩) rows.length cap) (lens rows.length) :: ps) res (cellsRes true b e (rows.flatten ++ sp.map is)) (fun _ => cellsRes true b e (rows.flatten ++ sp.map is))) :
    FunM P f (andIs v p :: ps) res (ownRes e sz rows v) (fun _ => ownRes e sz rows v) := by
  refine ⟨hE, fun M0 w0 S rs M w vs hI hv => ?_⟩
  match vs, hv with
  | u0 :: vs1, hv1 =>
    obtain ⟨hu0, hv2⟩ := hv1
    obtain rfl : u0 = v := hu0.1
    have hb0 := hI.hold _ (List.mem_cons_self ..)
    rcases hb0.1 with ⟨hnil, rfl⟩ | hmut
    · refine ((h0 hnil rfl).2 M w _ hI.bd (show HL M w (_ :: _) (_ :: vs1) from ⟨rfl, hv2⟩)).mono ?_
      rintro e' w' ⟨u, rfl, h2, h3⟩
      have hI' : HpH M0 w0 S (ownRes e sz rows (.slice none 0 0) :: rs) M w' := (Hp M0 w0 S _).st _ _ _ h3 hI
      exact ⟨u, M, rfl, Free.free _ _ _ _ h2, Ext.below h3, hI'⟩
    · obtain ⟨b, cap, spare, rfl, hnc, hcm, hsp, hcr⟩ := hmut
      have hC := hI.swap1 (i := 0) (r' := cellsRes true b e (rows.flatten ++ spare.map is)) rfl rfl rfl hcr
      refine ((h1 b cap spare rfl hnc hcm hsp).2 M0 w0 S rs M w _ hC (show HL M w (_ :: _) (_ :: vs1) from ⟨⟨rfl, _, _, rfl⟩, hv2⟩)).mono ?_
      rintro e' w' ⟨u, M', rfl, h2, h3, h4⟩
      exact ⟨u, M', rfl, h2, h3, h4.swap1 (i := 0) rfl rfl rfl (.inr ⟨b, cap, spare, rfl, hnc, hcm, hsp, (h4.hold _ (List.mem_cons_self ..)).1⟩)⟩
/-- What two copies within a block make: one more in between. -/
theorem ins_place {A S : List Pr} {X : Pr} {i n : Nat} (hA : A.length = n) (hi : i < n) (hS : 0 < S.length) {P1 P2 : List Pr}
    (h1 : P1 = (A ++ S).take (i + 1) ++ ((A ++ S).drop i).take (n - i) ++ (A ++ S).drop (i + 1 + (n - i))) (h2 : P2 = P1.take i ++ [X] ++ P1.drop (i + 1)) : P2 = (A.take i ++ [X] ++ A.drop i) ++ S.drop 1 := by
  have e1 : (A ++ S).take (i + 1) = A.take i ++ (A.drop i).take 1 := by
    rw [List.take_append_of_le_length (by omega), List.take_add]
  have e2 : ((A ++ S).drop i).take (n - i) = A.drop i := by
    rw [List.drop_append_of_le_length (by omega), List.take_append_of_le_length (by rw [List.length_drop]; omega), List.take_of_length_le (by rw [List.length_drop]; omega)]
  have e3 : (A ++ S).drop (i + 1 + (n - i)) = S.drop 1 := by
    rw [show i + 1 + (n - i) = A.length + 1 by omega, List.drop_append]; simp
  have l1 : (A.take i).length = i := by rw [List.length_take]; omega
  have l2 : ((A.drop i).take 1).length = 1 := by rw [List.length_take, List.length_drop]; omega
  rw [e1, e2, e3] at h1
  subst h1
  subst h2
  have t1 : (A.take i ++ (A.drop i).take 1 ++ A.drop i ++ S.drop 1).take i = A.take i := by
    rw [List.append_assoc, List.append_assoc]; exact List.take_left' l1
  have t2 : (A.take i ++ (A.drop i).take 1 ++ A.drop i ++ S.drop 1).drop (i + 1) = A.drop i ++ S.drop 1 := by
    rw [List.append_assoc]; exact List.drop_left' (by rw [List.length_append]; omega)
  rw [t1, t2]
  simp
/-- What a longer block and two copies into it make. -/
theorem ins_grown {A S Z : List Pr} {X : Pr} {i n : Nat} (hA : A.length = n) (hi : i < n) (hZ : n + 1 - i ≤ Z.length) {P0 P1 P2 : List Pr}
    (h0 : P0 = (A ++ S).take i ++ Z) (h1 : P1 = P0.take i ++ [X] ++ P0.drop (i + 1)) (h2 : P2 = P1.take (i + 1) ++ A.drop i ++ P1.drop (i + 1 + (n - i))) : P2 = (A.take i ++ [X] ++ A.drop i) ++ Z.drop (n + 1 - i) := by
  have l1 : (A.take i).length = i := by rw [List.length_take]; omega
  rw [List.take_append_of_le_length (by omega)] at h0
  subst h0
  have e1 : (A.take i ++ Z).take i = A.take i := by rw [List.take_append_of_le_length (by omega), List.take_of_length_le (by omega)]
  have e2 : (A.take i ++ Z).drop (i + 1) = Z.drop 1 := by rw [List.drop_append, List.drop_of_length_le (by omega), List.nil_append, l1]; congr 1; omega
  rw [e1, e2] at h1
  subst h1
  have l2 : (A.take i ++ [X]).length = i + 1 := by simp; omega
  have e3 : (A.take i ++ [X] ++ Z.drop 1).take (i + 1) = A.take i ++ [X] := by rw [List.take_append_of_le_length (by omega), List.take_of_length_le (by omega)]
  have e4 : (A.take i ++ [X] ++ Z.drop 1).drop (i + 1 + (n - i)) = Z.drop (n + 1 - i) := by
    rw [List.drop_append, List.drop_of_length_le (by omega), List.nil_append, l2, List.drop_drop]; congr 1; omega
  rw [e3, e4] at h2
  exact h2
theorem ins_place2 {A S B : List Pr} {X : Pr} {i n o1 o2 o3 o4 o5 o6 : Nat} {X1 : List Pr} (hA : A.length = n) (hi : i < n) (hS : 0 < S.length) (h1 : o1 = i + 1) (h2 : o2 = i) (h3 : o3 = n - i) (h4 : o4 = i + 1 + (n - i)) (h5 : o5 = i) (h6 : o6 = i + 1) (hX : X1 = [X]) (hB : B = (A.take i ++ [X] ++ A.drop i) ++ S.drop 1) :
    ((A ++ S).take o1 ++ ((A ++ S).drop o2).take o3 ++ (A ++ S).drop o4).take o5 ++ X1 ++ ((A ++ S).take o1 ++ ((A ++ S).drop o2).take o3 ++ (A ++ S).drop o4).drop o6 = B := by
  subst h1 h2 h3 h4 h5 h6 hX hB
  exact ins_place hA hi hS rfl rfl
theorem ins_grown2 {A S Z B R : List Pr} {X : Pr} {i n o0 o1 o2 o3 o4 : Nat} {X1 : List Pr} (hA : A.length = n) (hi : i < n) (hZ : n + 1 - i ≤ Z.length) (h0 : o0 = i) (h1 : o1 = i) (h2 : o2 = i + 1) (h3 : o3 = i + 1) (h4 : o4 = i + 1 + (n - i)) (hX : X1 = [X]) (hR : R = A.drop i) (hB : B = (A.take i ++ [X] ++ A.drop i) ++ Z.drop (n + 1 - i)) :
    (((A ++ S).take o0 ++ Z).take o1 ++ X1 ++ ((A ++ S).take o0 ++ Z).drop o2).take o3 ++ R ++ (((A ++ S).take o0 ++ Z).take o1 ++ X1 ++ ((A ++ S).take o0 ++ Z).drop o2).drop o4 = B := by
  subst h0 h1 h2 h3 h4 hX hR hB
  exact ins_grown hA hi hZ rfl rfl rfl
theorem flat_take1 {β : Type} {f : β → List Pr} (hf : ∀ x, (f x).length = 1) : ∀ (l : List β) (i : Nat), ((l.map f).flatten).take i = ((l.take i).map f).flatten
  | [], i => by simp
  | a :: l, 0 => by simp
  | a :: l, i + 1 => by
    rw [List.map_cons, List.flatten_cons, List.take_succ_cons, List.map_cons, List.flatten_cons, ← flat_take1 hf l i, List.take_append, hf a, List.take_of_length_le (by rw [hf a]; omega)]; rfl
theorem flat_drop1 {β : Type} {f : β → List Pr} (hf : ∀ x, (f x).length = 1) : ∀ (l : List β) (i : Nat), ((l.map f).flatten).drop i = ((l.drop i).map f).flatten
  | [], i => by simp
  | a :: l, 0 => by simp
  | a :: l, i + 1 => by
    rw [List.map_cons, List.flatten_cons, List.drop_succ_cons, ← flat_drop1 hf l i, List.drop_append, hf a, List.drop_of_length_le (by rw [hf a]; omega)]; rfl
theorem flat_ins {β : Type} {f : β → List Pr} (hf : ∀ x, (f x).length = 1) {l : List β} {i : Nat} {x : β} {X : Pr} (hX : f x = [X]) : ((l.map f).flatten).take i ++ [X] ++ ((l.map f).flatten).drop i = ((l.take i ++ [x] ++ l.drop i).map f).flatten := by
  rw [flat_take1 hf, flat_drop1 hf, List.map_append, List.map_append, List.flatten_append, List.flatten_append, List.map_singleton, hX]; simp
instance free_tup2 (p q : Pr) [Free p] [Free q] : Free (tup [p, q]) := ⟨fun M M' w v ⟨cs, h1, h2⟩ => ⟨cs, h1, by
  match cs, h2 with
  | [a, b], h2 => exact ⟨Free.free _ _ _ _ h2.1, Free.free _ _ _ _ h2.2.1, trivial⟩⟩⟩
theorem ok_convU {I : Asn} {s t : TypeId} {x : Operand} {k : IntKind} {n : Int} (ho : o.op = .convert s t x) (hs : P.underlying s = some (.int k)) (ht : P.underlying t = some (.int .u64)) (hx : VL E x (is (.int k n))) (h0 : 0 ≤ n) (h1 : n ≤ 18446744073709551615) : OpOK P I o E (is (.int .u64 n)) := by
  have := ok_conv (P := P) (I := I) ho hs ht hx
  rwa [IntWalk.u64_in n ⟨h0, h1⟩] at this
theorem ok_half {I : Asn} {t u : TypeId} {x y : Operand} {m : Int} (ho : o.op = .binOp .shr t x y u) (hx : VL E x (is (.int .u64 m))) (hy : VL E y (is (.int .u64 1))) (h0 : 0 ≤ m) : OpOK P I o E (is (.int .u64 (m / 2))) :=
  OpOK.same fun M w a he _ => by
    have h1 : a.eval x = .int .u64 m := hx.ev he (by simp [ho, Op.operands])
    have h2 : a.eval y = .int .u64 1 := hy.ev he (by simp [ho, Op.operands])
    refine ⟨.int .u64 (m.fdiv 2), ?_, congrArg (Value.int .u64) (Int.fdiv_eq_ediv_of_nonneg m (by omega))⟩
    simp only [execOp, ho, h1, h2]
    simp [eqGuard, binOp, Op.shift, IntKind.bits]
end
end Cp
