/-
  Slices whose elements are ours: made by append onto nothing, turned by stores, read again when nobody turns them any more.
-/
import Derived.Test.YthmnoekgicggnaaGreatCoreQ
namespace Cp
open Go Go.RowKit Go.Great

section
variable {P : Program} {n : Nat} {E : Env} {M0 : Av} {w0 : World} {S : Nat → Prop} {rs : List Res} {o : Oper}

/-- A slice of m elements. -/
def lens (m : Nat) : Pr where
  h _ _ v := ∃ a c, v = .slice a m c
  st _M _w _M' _w' _v _ h := h
instance one_lens (m : Nat) : One (lens m) := ⟨by rintro M w v ⟨a, c, rfl⟩; exact ⟨rfl, rfl⟩⟩
theorem slice_lens (sz : Nat) (rows : List (List Pr)) : Pr.le (slice sz rows) (lens rows.length) := fun _ _ _ ⟨a, c, h, _⟩ => ⟨a, c, h⟩

/-- The elements of this slice are ours, and what lies behind them. -/
def mutRes (e : TypeId) (sz : Nat) (rows : List (List Pr)) (v : Value) : Res where
  blk := match v with | .slice (some a) _ _ => some a.block | _ => none
  new := true
  h M w := ∃ (b cap : Nat) (spare : List Value), v = .slice (some ⟨b, 0, none⟩) rows.length cap ∧ rows.length ≤ cap ∧ cap ≤ maxLen ∧ spare.length = (cap - rows.length) * sz ∧ (cellsRes true b e (rows.flatten ++ spare.map is)).h M w
  st M w M' w' he hk h := by
    obtain ⟨b, cap, spare, rfl, h1, h2, h3, h4⟩ := h
    exact ⟨b, cap, spare, rfl, h1, h2, h3, (cellsRes true b e _).st _ _ _ _ he hk h4⟩

theorem flat_at {sz : Nat} : ∀ {rows : List (List Pr)} {i j : Nat} {row : List Pr}, (∀ r ∈ rows, r.length = sz) → rows[i]? = some row → j < sz → rows.flatten[i * sz + j]? = row[j]?
  | [], _, _, _, _, h, _ => by simp at h
  | a :: l, 0, j, row, hl, h, hj => by
    simp at h; subst h
    have := hl a (by simp)
    rw [List.flatten_cons, Nat.zero_mul, Nat.zero_add, List.getElem?_append_left (by omega)]
  | a :: l, i + 1, j, row, hl, h, hj => by
    have h1 := hl a (by simp)
    rw [List.flatten_cons, Nat.succ_mul, List.getElem?_append_right (by omega), h1, show i * sz + sz + j - sz = i * sz + j by omega]
    exact flat_at (fun r hr => hl r (List.mem_cons_of_mem _ hr)) (by simpa using h) hj
theorem flat_len {sz : Nat} : ∀ {rows : List (List Pr)}, (∀ r ∈ rows, r.length = sz) → rows.flatten.length = rows.length * sz
  | [], _ => by simp
  | a :: l, h => by
    rw [List.flatten_cons, List.length_append, flat_len (fun r hr => h r (List.mem_cons_of_mem _ hr)), h a (by simp), List.length_cons, Nat.succ_mul]; omega
theorem hl_of {M : Av} {w : World} : ∀ {ps : List Pr} {vs : List Value}, vs.length = ps.length → (∀ (k : Nat) p, ps[k]? = some p → ∃ u, vs[k]? = some u ∧ p.h M w u) → HL M w ps vs
  | [], [], _, _ => trivial
  | [], _ :: _, h, _ => by simp at h
  | _ :: _, [], h, _ => by simp at h
  | p :: ps, v :: vs, h, hk => by
    refine ⟨?_, hl_of (by simpa using h) fun k q hq => by simpa using hk (k + 1) q (by simpa using hq)⟩
    obtain ⟨u, hu, hp⟩ := hk 0 p rfl
    simp at hu; subst hu; exact hp
theorem Flat.hl {M : Av} {w : World} {sz : Nat} {rows : List (List Pr)} {news : List Value} (hsz : 0 < sz) (h : Flat M w sz rows news) : HL M w rows.flatten news := by
  have hl : ∀ r ∈ rows, r.length = sz := fun r hr => by obtain ⟨i, hi⟩ := List.mem_iff_getElem?.1 hr; exact (h.2.2 i r hi).1
  refine hl_of (by rw [h.1, flat_len hl]) fun k p hk => ?_
  have hkl : k < rows.length * sz := by rw [← flat_len hl]; rcases Nat.lt_or_ge k rows.flatten.length with h | h; exact h; rw [List.getElem?_eq_none h] at hk; cases hk
  have hi : k / sz < rows.length := Nat.div_lt_of_lt_mul (by rw [Nat.mul_comm]; exact hkl)
  have hj : k % sz < sz := Nat.mod_lt _ hsz
  have he : k / sz * sz + k % sz = k := by rw [Nat.mul_comm]; exact Nat.div_add_mod k sz
  have hr := List.getElem?_eq_getElem hi
  rw [← he, flat_at hl hr hj] at hk
  obtain ⟨u, hu, hp⟩ := (h.2.2 _ _ hr).2 _ p hk
  exact ⟨u, by rw [← he]; exact hu, hp⟩
theorem HL.flat {M : Av} {w : World} {sz : Nat} {rows : List (List Pr)} {qs : List Pr} {cs : List Value} (hl : ∀ r ∈ rows, r.length = sz) (h : HL M w (rows.flatten ++ qs) cs) (h1 : ∀ c ∈ cs, c.oneCell' = true) : Flat M w sz rows (cs.take (rows.length * sz)) := by
  have hfl := flat_len hl
  have hlen := h.length
  refine ⟨by rw [List.length_take, hlen, List.length_append, hfl]; omega, fun u hu => h1 u (List.mem_of_mem_take hu), fun i row hi => ?_⟩
  have hrl := hl row (List.mem_of_getElem? hi)
  refine ⟨hrl, fun j p hp => ?_⟩
  have hjl : j < sz := by rw [← hrl]; rcases Nat.lt_or_ge j row.length with h | h; exact h; rw [List.getElem?_eq_none h] at hp; cases hp
  have hil : i < rows.length := by rcases Nat.lt_or_ge i rows.length with h | h; exact h; rw [List.getElem?_eq_none h] at hi; cases hi
  have hlt : i * sz + j < rows.length * sz := by have : (i + 1) * sz ≤ rows.length * sz := Nat.mul_le_mul_right sz hil; rw [Nat.add_mul] at this; omega
  obtain ⟨u, hu, hh⟩ := h.at_ (i * sz + j) p (by rw [List.getElem?_append_left (by rw [hfl]; exact hlt), flat_at hl hi hjl]; exact hp)
  exact ⟨u, by rw [List.getElem?_take, if_pos hlt]; exact hu, hh⟩
theorem zeroCells_one {zs : List Value} {z : Array Value} {k : Nat} (hz : z.toList = zs) (h1 : zs.all (·.oneCell') = true) : ∀ c ∈ (Builtin.zeroCells z k).toList, c.oneCell' = true := by
  intro c hc
  simp only [Builtin.zeroCells, Array.toList_map, Array.toList_range, List.mem_map, List.mem_range] at hc
  obtain ⟨i, hi, rfl⟩ := hc
  have hpos : 0 < z.size := by rcases Nat.eq_zero_or_pos z.size with h | h; rw [h] at hi; simp at hi; exact h
  have hm : i % z.size < z.size := Nat.mod_lt _ hpos
  rw [getElem!_pos z _ hm]
  exact List.all_eq_true.1 h1 _ (by rw [← hz]; simp)

/-- append onto nothing: a new block, ours. -/
theorem app_new {M : Av} {w : World} {t ty e : TypeId} {sz bytes : Nat} {zs : List Value} {rows : List (List Pr)} {u : Value} {j : Nat} (ht : P.underlying t = some (.slice e)) (hz : sizeB P e = some sz) (hby : bytesB P e = some bytes) (hze : zeroB P e = some zs) (hzl : zs.length = sz) (hone : zs.all (·.oneCell') = true) (hsz : 0 < sz)
    (h : HpH M0 w0 S rs M w) (hj : rs[j]? = some noRes) (hu : (slice sz rows).h M w u) (hpos : 0 < rows.length) (hmax : rows.length ≤ maxLen) (hfit : rows.length * bytes ≤ 140737488355328) :
    ∃ v' w' M', (Builtin.append_ #[t, t] ty #[.slice none 0 0, u]).run P w = .ok v' w' ∧ (lens rows.length).h M' w' v' ∧ Ext M w M' w' ∧ HpH M0 w0 S (rs.set j (mutRes e sz rows v')) M' w' := by
  unfold sizeB at hz
  unfold bytesB at hby
  unfold zeroB at hze
  cases hi : P.info? e with
  | none => rw [hi] at hz; cases hz
  | some i =>
    rw [hi] at hz hby hze
    simp only [Option.map_some, Option.some.injEq, Option.map_eq_some_iff] at hz hby hze
    obtain ⟨z, hzz, hze⟩ := hze
    have hzc : z.cells.size = sz := by rw [← hzl, ← hze]; simp
    obtain ⟨A', c', rfl, hmc, hcm', hA', hrows'⟩ := hu
    have hu0 : (slice sz rows).h M w (.slice A' rows.length c') := ⟨A', c', rfl, hmc, hcm', hA', hrows'⟩
    obtain ⟨ad', rfl⟩ : ∃ ad', A' = some ad' := by
      obtain ⟨_, b, hb, _⟩ := hrows' 0 _ (List.getElem?_eq_getElem hpos)
      exact ⟨b, hb⟩
    obtain ⟨news, hfl, hcell⟩ := slice_flat hsz hu0
    have hrun := run_append_nil (P := P) w t ty e i z ht hi hzz ad' rows.length c' news (by rw [hz]; exact hfl.1) (fun k u hk => (hcell k u hk).1) hpos (by unfold maxLen at hmax; omega) (by rw [hby]; omega)
    generalize hcap : grownCap w rows.length 0 e = cap at hrun
    have hge : rows.length ≤ cap := by rw [← hcap]; exact grownCap_ge _ _ _ _
    have hle : cap ≤ maxLen := by rw [← hcap]; exact grownCap_le_maxLen _ _ _ _ hmax
    generalize hzc' : Builtin.zeroCells z.cells (cap - rows.length) = zc at hrun
    have hzs : zc.size = (cap - rows.length) * sz := by rw [← hzc', size_zeroCells, hzc]
    have hzo : ∀ c ∈ zc.toList, c.oneCell' = true := by rw [← hzc']; exact zeroCells_one hze hone
    have hb : Below w.heap.size w (w.drew.alloc (.cells (news.toArray ++ zc) e)) := ((Below.refl _ _).drew).alloc (Nat.le_refl _) _
    have h2 := Ext.below (M := M) hb
    have hext : Ext M w (fun b o => M b o ∨ b = w.heap.size) (w.drew.alloc (.cells (news.toArray ++ zc) e)) := by
      refine ⟨h2.size, fun a v hc hm => ⟨fun hx => ?_, (h2.keep a v hc hm).2⟩, fun b o ho hp hm => ⟨fun hx => ?_, (h2.obj b o ho hp hm).2⟩⟩
      · rcases hx with hx | hx
        · exact hm hx
        · have := cell_lt hc; omega
      · rcases hx with hx | hx
        · exact hm hx
        · subst hx; simp at ho
    have hs1 : (w.drew.alloc (.cells (news.toArray ++ zc) e)).heap.size = w.heap.size + 1 := by simp
    refine ⟨_, _, fun b o => M b o ∨ b = w.heap.size, hrun, ⟨_, _, rfl⟩, hext, ?_⟩
    refine h.replace hj hext hb.os hb.tape hb.output (fun k hk _ => hb.block k hk) rfl (fun b o hm _ => .inl hm) (fun b o hx => ?_) ?_ rfl (fun b hbk => ?_)
    · rcases hx with hx | hx
      · have := h.bd _ _ hx; omega
      · omega
    · refine ⟨w.heap.size, cap, zc.toList, rfl, hge, hle, by simpa using hzs, fun o => .inr rfl, news ++ zc.toList, ?_, ?_, ?_⟩
      · have hh : (w.drew.alloc (.cells (news.toArray ++ zc) e)).heap[w.heap.size]? = some (.cells (news.toArray ++ zc) e (0, 0)) := heap_alloc_new w.drew _
        rw [hh]; simp
      · exact ((hfl.st hext).hl hsz).app (hl_is _ _ _)
      · intro c hc
        rcases List.mem_append.1 hc with hc | hc
        · exact hfl.2.1 c hc
        · exact hzo c hc
    · have hbk' : some w.heap.size = some b := hbk
      injection hbk' with e1
      subst e1
      exact ⟨by rw [hs1]; omega, .inr (Nat.le_refl _)⟩
theorem ef_appnew {t e : TypeId} {y : Operand} {sz bytes d : Nat} {zs : List Value} {rows : List (List Pr)} {j : Nat} (hg : o.guard = none) (hd : o.dst = some d) (hn : d < n) (ho : o.op = .call { callee := .builtin .append, args := #[.const (.slice none 0 0), y], argTypes := #[t, t] })
    (ht : P.underlying t = some (.slice e)) (hz : sizeB P e = some sz) (hby : bytesB P e = some bytes) (hze : zeroB P e = some zs) (hzl : zs.length = sz) (hone : zs.all (·.oneCell') = true) (hsz : 0 < sz)
    (hy : VL E y (slice sz rows)) (hpos : 0 < rows.length) (hmax : rows.length ≤ maxLen) (hfit : rows.length * bytes ≤ 140737488355328) : OpEf P M0 w0 S n j (SR.c noRes) ⟨d, mutRes e sz rows⟩ o E (lens rows.length) := by
  refine ⟨hg, fun M w a rs hszn he hI hj => ?_⟩
  have h2 := hy.ev he (by simp [ho, Op.operands, Call.operands])
  obtain ⟨v', w', M', hrun, h3, h4, h5⟩ := app_new (ty := o.type) ht hz hby hze hzl hone hsz hI hj h2 hpos hmax hfit
  have hc0 : a.eval (.const (.slice none 0 0)) = .slice none 0 0 := rfl
  have hrun2 : (execOp a.eval o).run P w = .ok (.value v') w' := by simp [execOp, ho, resolve, invoke, builtin, hc0, hrun]
  rw [hrun2]
  refine ⟨M', h3, h4, ?_⟩
  have : (SR.at_ (a.put o.dst v') ⟨d, mutRes e sz rows⟩) = mutRes e sz rows v' := by unfold SR.at_; rw [hd, put_same (by rw [hszn]; exact hn)]
  rw [this]; exact h5

/-- Where it lies. -/
theorem St.openM {e : TypeId} {sz : Nat} {rows : List (List Pr)} {v : Value} (j : Nat) (hj : rs[j]? = some (mutRes e sz rows v)) {a : Act} {w : World} (h : St n E (Hp M0 w0 S rs) a w) :
    ∃ (b cap : Nat) (spare : List Value), v = .slice (some ⟨b, 0, none⟩) rows.length cap ∧ rows.length ≤ cap ∧ cap ≤ maxLen ∧ spare.length = (cap - rows.length) * sz ∧ St n E (Hp M0 w0 S (rs.set j (cellsRes true b e (rows.flatten ++ spare.map is)))) a w := by
  obtain ⟨M, h1, h2, h3, h4⟩ := h
  have h4 : HpH M0 w0 S rs M w := h4
  obtain ⟨b, cap, spare, rfl, h5, h6, h7, h8⟩ := (h4.hold _ (List.mem_of_getElem? hj)).1
  exact ⟨b, cap, spare, rfl, h5, h6, h7, M, h1, h2, h3, h4.swap1 hj rfl rfl h8⟩
theorem Tr.openM {Q : Exit → Act → World → Prop} {c : Code} {e : TypeId} {sz : Nat} {rows : List (List Pr)} {v : Value} (j : Nat) (hj : rs[j]? = some (mutRes e sz rows v))
    (k : ∀ (b cap : Nat) (spare : List Value), v = .slice (some ⟨b, 0, none⟩) rows.length cap → rows.length ≤ cap → cap ≤ maxLen → spare.length = (cap - rows.length) * sz → Tr P n E (Hp M0 w0 S (rs.set j (cellsRes true b e (rows.flatten ++ spare.map is)))) c Q) : Tr P n E (Hp M0 w0 S rs) c Q :=
  fun a w hs => let ⟨b, cap, spare, h1, h2, h3, h4, h5⟩ := hs.openM j hj; k b cap spare h1 h2 h3 h4 a w h5
theorem Fin.openM {Q : Exit → Act → World → Prop} {ex : Exit} {e : TypeId} {sz : Nat} {rows : List (List Pr)} {v : Value} (j : Nat) (hj : rs[j]? = some (mutRes e sz rows v))
    (k : ∀ (b cap : Nat) (spare : List Value), v = .slice (some ⟨b, 0, none⟩) rows.length cap → rows.length ≤ cap → cap ≤ maxLen → spare.length = (cap - rows.length) * sz → Fin n E (Hp M0 w0 S (rs.set j (cellsRes true b e (rows.flatten ++ spare.map is)))) Q ex) : Fin n E (Hp M0 w0 S rs) Q ex :=
  fun a w hs => let ⟨b, cap, spare, h1, h2, h3, h4, h5⟩ := hs.openM j hj; k b cap spare h1 h2 h3 h4 a w h5

/-- Nobody turns its elements any more; there may be room behind them. -/
theorem HpH.frz {M : Av} {w : World} {b cap sz : Nat} {e : TypeId} {rows : List (List Pr)} {qs : List Pr} {j : Nat} (h : HpH M0 w0 S rs M w) (hj : rs[j]? = some (cellsRes true b e (rows.flatten ++ qs))) (hl : ∀ r ∈ rows, r.length = sz) (hc : rows.length ≤ cap) (hm : cap ≤ maxLen) (hq : qs.length = (cap - rows.length) * sz) :
    ∃ M', Ext M w M' w ∧ HpH M0 w0 S (rs.set j (appRes e sz (.slice (some ⟨b, 0, none⟩) rows.length cap))) M' w ∧ (slice sz rows).h M' w (.slice (some ⟨b, 0, none⟩) rows.length cap) := by
  obtain ⟨⟨hM, cs, hh, hcs, hone⟩, hbb⟩ := h.hold _ (List.mem_of_getElem? hj)
  have hbl := (hbb b rfl).1
  have hfl := HL.flat hl hcs hone
  have hlen := hcs.length
  rw [List.length_append, flat_len hl, hq, ← Nat.add_mul, show rows.length + (cap - rows.length) = cap by omega] at hlen
  have he : Ext M w (fun b' o => M b' o ∧ ¬ (b' = b ∧ o < rows.length * sz)) w := Ext.less fun _ _ h => h.1
  refine ⟨_, he, ?_, slice_of_flat (hfl.st he) hc hm fun k u hk => ?_⟩
  · refine h.replace hj he rfl rfl rfl (fun _ _ _ => rfl) rfl (fun b' o hm' hne => ⟨hm', fun hx => hne (by rw [hx.1]; rfl)⟩) (fun b' o hx => h.bd _ _ hx.1) ?_ rfl (fun b' hbk => ?_)
    · intro a' n' c' hv hlt
      injection hv with e1 e2 e3
      injection e1 with e1
      subst e1; subst e2; subst e3
      refine ⟨⟨cs.take (rows.length * sz), hfl.1, .inr ⟨b, cap, cs.toArray, rfl, Nat.zero_le _, hh, hc, hm, by simpa using hlen, by simp⟩⟩, fun o ho => ⟨hM o, fun hx => by omega⟩⟩
    · have hbk' : appBlk (.slice (some ⟨b, 0, none⟩) rows.length cap) = some b' := hbk
      simp only [appBlk] at hbk'
      split at hbk'
      · simp at hbk'; subst hbk'; exact ⟨hbl, .inl rfl⟩
      · cases hbk'
  · have hkl : k < rows.length * sz := by rw [← hfl.1]; rcases Nat.lt_or_ge k (cs.take (rows.length * sz)).length with h | h; exact h; rw [List.getElem?_eq_none h] at hk; cases hk
    rw [List.getElem?_take, if_pos hkl] at hk
    exact ⟨by simp [World.cell?, hh, hk], fun hx => hx.2 ⟨rfl, hkl⟩⟩
/-- .. and a cell of ours holds it. -/
theorem St.frzC {b b0 cap sz : Nat} {e T : TypeId} {new : Bool} {rows : List (List Pr)} {qs ps ps' : List Pr} (j i k : Nat) {p : Pr} (hj : rs[j]? = some (cellsRes true b e (rows.flatten ++ qs))) (hi : rs[i]? = some (cellsRes new b0 T ps)) (hij : j ≠ i) (hk : ps[k]? = some p) (hp : Pr.le p (is (.slice (some ⟨b, 0, none⟩) rows.length cap)))
    (hl : ∀ r ∈ rows, r.length = sz) (hc : rows.length ≤ cap) (hm : cap ≤ maxLen) (hq : qs.length = (cap - rows.length) * sz) (hps : ps.set k (andIs (.slice (some ⟨b, 0, none⟩) rows.length cap) (slice sz rows)) = ps')
    {a : Act} {w : World} (h : St n E (Hp M0 w0 S rs) a w) : St n E (Hp M0 w0 S ((rs.set j (appRes e sz (.slice (some ⟨b, 0, none⟩) rows.length cap))).set i (cellsRes new b0 T ps'))) a w := by
  obtain ⟨M, h1, h2, h3, h4⟩ := h
  obtain ⟨M', h5, h6, h7⟩ := HpH.frz h4 hj hl hc hm hq
  have hi' : (rs.set j (appRes e sz (.slice (some ⟨b, 0, none⟩) rows.length cap)))[i]? = some (cellsRes new b0 T ps) := by rw [List.getElem?_set, if_neg hij]; exact hi
  obtain ⟨h8, cs, h9, h10, h11⟩ := (h6.hold _ (List.mem_of_getElem? hi')).1
  refine ⟨M', h1, h2, fun s q hs => q.st _ _ _ _ _ h5 (h3 s q hs), h6.swap1 hi' rfl rfl ⟨h8, cs, h9, ?_, h11⟩⟩
  subst hps
  refine hl_of (by rw [h10.length]; simp) fun k' p' hk' => ?_
  rw [List.getElem?_set] at hk'
  split at hk'
  · rename_i e1
    subst e1
    split at hk'
    · obtain ⟨u, hu, hpu⟩ := h10.at_ k p hk
      simp at hk'; subst hk'
      have := hp _ _ _ hpu
      refine ⟨u, hu, this, ?_⟩
      have hu2 : u = .slice (some ⟨b, 0, none⟩) rows.length cap := this
      rw [hu2]; exact h7
    · cases hk'
  · exact h10.at_ k' p' hk'
theorem Tr.frzC {Q : Exit → Act → World → Prop} {c : Code} {b b0 cap sz : Nat} {e T : TypeId} {new : Bool} (rows : List (List Pr)) {qs ps ps' : List Pr} (j i k : Nat) {p : Pr} (hj : rs[j]? = some (cellsRes true b e (rows.flatten ++ qs))) (hi : rs[i]? = some (cellsRes new b0 T ps)) (hij : j ≠ i) (hk : ps[k]? = some p) (hp : Pr.le p (is (.slice (some ⟨b, 0, none⟩) rows.length cap)))
    (hl : ∀ r ∈ rows, r.length = sz) (hc : rows.length ≤ cap) (hm : cap ≤ maxLen) (hq : qs.length = (cap - rows.length) * sz) (hps : ps.set k (andIs (.slice (some ⟨b, 0, none⟩) rows.length cap) (slice sz rows)) = ps')
    (k' : Tr P n E (Hp M0 w0 S ((rs.set j (appRes e sz (.slice (some ⟨b, 0, none⟩) rows.length cap))).set i (cellsRes new b0 T ps'))) c Q) : Tr P n E (Hp M0 w0 S rs) c Q :=
  Tr.conv (fun _ _ hs => hs.frzC j i k hj hi hij hk hp hl hc hm hq hps) k'
end
end Cp
