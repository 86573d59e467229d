/-
  Slices of slices of our own: new rows, writes into a row, and what is read when nobody turns them any more.
-/
import Derived.Test.YthmnoekgicggnaaGreatCoreP
import Derived.Laws.MakeOwn
namespace Cp
open Go Go.RowKit Go.Great

section
variable {P : Program} {n : Nat} {E : Env} {M0 : Av} {w0 : World} {S : Nat → Prop} {rs : List Res}

/-- The slice of all of a block of m cells. -/
abbrev slB (m b : Nat) : Value := .slice (some ⟨b, 0, none⟩) m m
theorem TO.mkslice {ops : Array Oper} {o : Oper} {r : List Oper} {Q : Exit → Act → World → Prop} {d m by_ : Nat} {t e : TypeId} {x y : Operand} {z : Value} (hg : o.guard = none) (hd : o.dst = some d) (hn : d < n) (ho : o.op = .makeSlice t x y) (ht : P.underlying t = some (.slice e))
    (hs : sizeB P e = some 1) (hby : bytesB P e = some by_) (hz : zeroB P e = some [z]) (h1 : z.oneCell' = true) (hx : VL E x (int ((m : Nat) : Int))) (hy : VL E y (int ((m : Nat) : Int))) (hm : m ≤ maxLen) (hb : by_ * m ≤ 281474976710656)
    (k : ∀ b, TO P n ops r ((d, is (slB m b)) :: E) (Hp M0 w0 S (cellsRes true b e ((List.replicate m z).map is) :: rs)) Q) : TO P n ops (o :: r) E (Hp M0 w0 S rs) Q :=
  TO.eff hg fun K M w a hsz hdf he hI hK => by
    have hx1 : a.eval x = .int .i64 m := hx.ev (o := o) (looks_env he) (by simp [ho, Op.operands])
    have hy1 : a.eval y = .int .i64 m := hy.ev (o := o) (looks_env he) (by simp [ho, Op.operands])
    have hi : ∃ i, P.info? e = some i ∧ i.size = 1 ∧ i.bytes = by_ ∧ ∃ z', i.zero = some z' ∧ z'.cells = #[z] := by
      unfold sizeB at hs; unfold bytesB at hby; unfold zeroB at hz
      cases hi : P.info? e with
      | none => rw [hi] at hs; cases hs
      | some i =>
        rw [hi] at hs hby hz
        simp at hs hby hz
        obtain ⟨z', h2, h3⟩ := hz
        exact ⟨i, rfl, hs, hby, z', h2, by rw [← Array.toList_inj, h3]⟩
    obtain ⟨i, hi, hi1, hi2, z', hz1, hz2⟩ := hi
    have hmk : madeCells z'.cells m = (List.replicate m z).toArray := by
      rw [hz2]
      apply Array.ext
      · simp [madeCells]
      · intro j h1 h2
        simp [madeCells, Nat.mod_one]
    have hrun := run_make (P := P) w t e i z' ht hi hz1 .i64 .i64 (m : Int) (m : Int) (by omega) (Int.le_refl _) (by rw [hi2]; have h0 : ((by_ * m : Nat) : Int) ≤ 281474976710656 := Int.ofNat_le.2 hb; rw [← Int.natCast_mul]; exact h0) (by unfold maxLen at hm; omega)
    rw [hi1] at hrun
    simp only [Int.toNat_natCast, Nat.mul_one] at hrun
    rw [hmk] at hrun
    refine TO.val (v := slB m w.heap.size) (w' := w.alloc (.cells (List.replicate m z).toArray e)) ?_ ?_
    · simp [execOp, ho, hx1, hy1, hrun]
    · obtain ⟨h2, h3⟩ := HpH.add (T := e) hI (hl_is M w (List.replicate m z)) (fun c hc => by rw [List.eq_of_mem_replicate hc]; exact h1)
      refine hK _ _ _ _ (k w.heap.size) ⟨_, by rw [put_size]; exact hsz, by rw [put_defers]; exact hdf, ?_, h2⟩
      intro s p hp
      simp only [List.lookup] at hp
      by_cases hs : s = d
      · subst hs; simp at hp; subst hp; rw [hd, put_same (by rw [hsz]; exact hn)]; rfl
      · rw [show (s == d) = false by simpa using hs] at hp
        rw [hd, put_other hs]
        exact p.st _ _ _ _ _ h3 (he s p hp)
theorem okp_indexSl {I : Asn} {o : Oper} {t e : TypeId} {x y : Operand} {k : IntKind} {i : Int} {len cap sz b off : Nat} (ho : o.op = .indexAddr t x y) (ht : P.underlying t = some (.slice e)) (hz : sizeB P e = some sz) (hx : VL E x (is (.slice (some ⟨b, off, none⟩) len cap))) (hy : VL E y (is (.int k i)))
    (h0 : 0 ≤ i) (hl : i < len) : OpOK P I o E (ptr b (off + i.toNat * sz)) :=
  OpOK.same fun M w a he _ => by
    have h1 : a.eval x = _ := hx.ev he (by simp [ho, Op.operands])
    have h5 : a.eval y = .int k i := hy.ev he (by simp [ho, Op.operands])
    refine ⟨_, ?_, rfl⟩
    simp [execOp, ho, h1, h5, Instr.indexAt, asIntOf, run_underlying ht, run_size hz, h0, hl, addr_add]

/-- Rows, a block each. -/
def rowsRes (e : TypeId) : List Nat → List (List Pr) → List Res
  | b :: bs, r :: tbl => cellsRes true b e r :: rowsRes e bs tbl
  | _, _ => []
theorem rows_snoc {e : TypeId} {b : Nat} {r : List Pr} : ∀ {bs : List Nat} {tbl : List (List Pr)}, bs.length = tbl.length → (rowsRes e (bs ++ [b]) (tbl ++ [r])).Perm (cellsRes true b e r :: rowsRes e bs tbl)
  | [], [], _ => List.Perm.refl _
  | c :: bs, q :: tbl, h => ((rows_snoc (by simpa using h)).cons _).trans (List.Perm.swap _ _ _)
  | [], _ :: _, h => by simp at h
  | _ :: _, [], h => by simp at h
theorem rows_at {e : TypeId} {b : Nat} (r' : List Pr) : ∀ {i : Nat} {bs : List Nat} {tbl : List (List Pr)}, bs.length = tbl.length → bs[i]? = some b → (rowsRes e bs (tbl.set i r')).Perm (cellsRes true b e r' :: rowsRes e (bs.eraseIdx i) (tbl.eraseIdx i))
  | 0, c :: bs, q :: tbl, _, hb => by simp at hb; subst hb; exact List.Perm.refl _
  | i + 1, c :: bs, q :: tbl, h, hb => ((rows_at r' (by simpa using h) (by simpa using hb)).cons _).trans (List.Perm.swap _ _ _)
  | _, [], [], _, hb => by simp at hb
  | _, [], _ :: _, h, _ => by simp at h
  | _, _ :: _, [], h, _ => by simp at h
theorem rows_at' {e : TypeId} {b i : Nat} {r : List Pr} {bs : List Nat} {tbl : List (List Pr)} (h : bs.length = tbl.length) (hb : bs[i]? = some b) (hr : tbl[i]? = some r) : (rowsRes e bs tbl).Perm (cellsRes true b e r :: rowsRes e (bs.eraseIdx i) (tbl.eraseIdx i)) := by
  have := rows_at (e := e) r h hb
  rwa [show tbl.set i r = tbl by
    have hl : i < tbl.length := by rcases Nat.lt_or_ge i tbl.length with h | h; exact h; rw [List.getElem?_eq_none h] at hr; cases hr
    rw [List.getElem?_eq_getElem hl] at hr; simp at hr; rw [← hr, List.set_getElem_self]] at this
theorem Tr.perm {Q : Exit → Act → World → Prop} {c : Code} {rs' : List Res} (hp : rs.Perm rs') (k : Tr P n E (Hp M0 w0 S rs') c Q) : Tr P n E (Hp M0 w0 S rs) c Q :=
  Tr.conv (fun _ _ ⟨M, h1, h2, h3, h4⟩ => ⟨M, h1, h2, h3, HpH.perm hp h4⟩) k
theorem Fin.perm {Q : Exit → Act → World → Prop} {ex : Exit} {rs' : List Res} (hp : rs.Perm rs') (k : Fin n E (Hp M0 w0 S rs') Q ex) : Fin n E (Hp M0 w0 S rs) Q ex :=
  Fin.conv (fun _ _ ⟨M, h1, h2, h3, h4⟩ => ⟨M, h1, h2, h3, HpH.perm hp h4⟩) k

theorem HpH.freeze1 {b : Nat} {T : TypeId} {ps : List Pr} {M : Av} {w : World} (h4 : HpH M0 w0 S (cellsRes true b T ps :: rs) M w) : ∃ M', HpH M0 w0 S rs M' w ∧ Ext M w M' w ∧ Row M' w ⟨b, 0, none⟩ 0 ps := by
  obtain ⟨⟨hm, cs, hh, hc, hone⟩, hbb⟩ := h4.hold _ (List.mem_cons_self ..)
  obtain ⟨hlt, hnew⟩ := hbb b rfl
  have hnew : w0.heap.size ≤ b := by simpa [cellsRes] using hnew
  have he : Ext M w (fun b' o => M b' o ∧ b' ≠ b) w := Ext.less fun _ _ h => h.1
  obtain ⟨hnd1, hnd2⟩ := List.pairwise_cons.1 h4.nd
  refine ⟨fun b' o => M b' o ∧ b' ≠ b, ⟨h4.m0, fun b' o' hm' => ⟨h4.m b' o' hm', fun e => ?_⟩, h4.os, h4.tape, h4.output, h4.size, h4.block, fun b' o' hm' => h4.bd b' o' hm'.1, fun r hr => ?_, hnd2⟩, he, fun j p hp => ?_⟩
  · subst e
    have := h4.m0 _ _ hm'
    omega
  · obtain ⟨h5, h6⟩ := h4.hold r (List.mem_cons_of_mem _ hr)
    exact ⟨r.st _ _ _ _ he (fun b' hb' => ⟨rfl, fun o' hmo => ⟨hmo, fun e => hnd1 r hr b rfl (by rw [← e]; exact hb')⟩⟩) h5, h6⟩
  · obtain ⟨u, hu, hpu⟩ := hc.at_ j p hp
    refine ⟨u, ?_, fun hx => hx.2 rfl, hone u (List.mem_of_getElem? hu), p.st _ _ _ _ _ he hpu⟩
    rw [show Addr.add ⟨b, 0, none⟩ (0 + j) = ⟨b, j, none⟩ by unfold Addr.add; split <;> simp_all]
    simp [World.cell?, hh, hu]
theorem HpH.freezeRows {e : TypeId} {w : World} : ∀ {bs : List Nat} {tbl : List (List Pr)} {M : Av}, bs.length = tbl.length → HpH M0 w0 S (rowsRes e bs tbl ++ rs) M w → ∃ M', HpH M0 w0 S rs M' w ∧ Ext M w M' w ∧ ∀ (i : Nat) b r, bs[i]? = some b → tbl[i]? = some r → Row M' w ⟨b, 0, none⟩ 0 r
  | [], [], M, _, h => ⟨M, h, Ext.refl _ _, fun i b r hb => by simp at hb⟩
  | c :: bs, q :: tbl, M, hl, h => by
    obtain ⟨M1, h1, h2, h3⟩ := HpH.freeze1 (rs := rowsRes e bs tbl ++ rs) h
    obtain ⟨M2, h4, h5, h6⟩ := HpH.freezeRows (by simpa using hl) h1
    refine ⟨M2, h4, h2.trans h5, fun i b r hb hr => ?_⟩
    cases i with
    | zero => simp at hb hr; subst hb; subst hr; exact h3.st h5
    | succ i => exact h6 i b r (by simpa using hb) (by simpa using hr)
  | [], _ :: _, _, h, _ => by simp at h
  | _ :: _, [], _, h, _ => by simp at h

/-- What a slice of slices reads as when nobody turns its rows. -/
theorem St.freezeRows {e : TypeId} {bs : List Nat} {tbl : List (List Pr)} {m s : Nat} {q : Pr} (hl : bs.length = tbl.length) (hm : m ≤ maxLen) (hr : ∀ r ∈ tbl, r.length = m) (hs : E.lookup s = some q) (hq : Pr.le q (slice 1 (bs.map fun b => [is (slB m b)])))
    {a : Act} {w : World} (h : St n E (Hp M0 w0 S (rowsRes e bs tbl ++ rs)) a w) : St n ((s, slice 1 (tbl.map fun r => [slice 1 (r.map fun p => [p])])) :: E) (Hp M0 w0 S rs) a w := by
  obtain ⟨M, h1, h2, h3, h4⟩ := h
  obtain ⟨M', h5, h6, h7⟩ := HpH.freezeRows hl h4
  refine ⟨M', h1, h2, ?_, h5⟩
  intro t p hp
  simp only [List.lookup] at hp
  by_cases ht : t = s
  · subst ht
    simp at hp
    subst hp
    obtain ⟨A, cap, h8, h9, h10, h11, h12⟩ := (slice 1 (bs.map fun b => [is (slB m b)])).st _ _ _ _ _ h6 (hq _ _ _ (h3 t _ hs))
    refine ⟨A, cap, by rw [h8]; simp [hl], by simpa [hl] using h9, h10, h11, fun i row hrow => ?_⟩
    rw [List.getElem?_map] at hrow
    cases htb : tbl[i]? with
    | none => rw [htb] at hrow; cases hrow
    | some r =>
      rw [htb] at hrow
      simp at hrow
      subst hrow
      have hil : i < bs.length := by
        rcases Nat.lt_or_ge i tbl.length with h | h
        · omega
        · rw [List.getElem?_eq_none h] at htb; cases htb
      obtain ⟨_, ad, h13, h14⟩ := h12 i [is (slB m bs[i])] (by rw [List.getElem?_map, List.getElem?_eq_getElem hil]; rfl)
      refine ⟨rfl, ad, h13, fun j p hp => ?_⟩
      have hj : j = 0 := by
        rcases Nat.eq_zero_or_pos j with h | h
        · exact h
        · rw [List.getElem?_eq_none (by simp; omega)] at hp; cases hp
      subst hj
      simp at hp
      subst hp
      obtain ⟨u, h15, h16, h17, h18⟩ := h14 0 _ rfl
      refine ⟨u, h15, h16, h17, ?_⟩
      have hu : u = slB m bs[i] := h18
      have hrl := hr r (List.mem_of_getElem? htb)
      refine ⟨some ⟨bs[i], 0, none⟩, m, by rw [hu]; simp [hrl], by simp [hrl], hm, by simp, fun x row hx => ?_⟩
      rw [List.getElem?_map] at hx
      cases hrx : r[x]? with
      | none => rw [hrx] at hx; cases hx
      | some p =>
        rw [hrx] at hx
        simp at hx
        subst hx
        refine ⟨rfl, ⟨bs[i], 0, none⟩, rfl, fun y p' hy => ?_⟩
        have hy0 : y = 0 := by
          rcases Nat.eq_zero_or_pos y with h | h
          · exact h
          · rw [List.getElem?_eq_none (by simp; omega)] at hy; cases hy
        subst hy0
        simp at hy
        subst hy
        have := h7 i _ r (List.getElem?_eq_getElem hil) htb x p hrx
        simpa using this
  · rw [show (t == s) = false by simpa using ht] at hp
    exact p.st _ _ _ _ _ h6 (h3 t p hp)
theorem Tr.freezeRows {Q : Exit → Act → World → Prop} {c : Code} {e : TypeId} {bs : List Nat} {tbl : List (List Pr)} {m : Nat} (s : Nat) {q : Pr} (hl : bs.length = tbl.length) (hm : m ≤ maxLen) (hr : ∀ r ∈ tbl, r.length = m) (hs : E.lookup s = some q) (hq : Pr.le q (slice 1 (bs.map fun b => [is (slB m b)])))
    (k : Tr P n ((s, slice 1 (tbl.map fun r => [slice 1 (r.map fun p => [p])])) :: E) (Hp M0 w0 S rs) c Q) : Tr P n E (Hp M0 w0 S (rowsRes e bs tbl ++ rs)) c Q :=
  Tr.conv (fun _ _ h => h.freezeRows hl hm hr hs hq) k
theorem Tr.freezeRows0 {Q : Exit → Act → World → Prop} {c : Code} {e : TypeId} {bs : List Nat} {tbl : List (List Pr)} {m : Nat} (s : Nat) {q : Pr} (hl : bs.length = tbl.length) (hm : m ≤ maxLen) (hr : ∀ r ∈ tbl, r.length = m) (hs : E.lookup s = some q) (hq : Pr.le q (slice 1 (bs.map fun b => [is (slB m b)])))
    (k : Tr P n ((s, slice 1 (tbl.map fun r => [slice 1 (r.map fun p => [p])])) :: E) (Hp M0 w0 S []) c Q) : Tr P n E (Hp M0 w0 S (rowsRes e bs tbl)) c Q :=
  Tr.conv (fun _ _ h => St.freezeRows (e := e) (rs := []) hl hm hr hs hq (by rw [List.append_nil]; exact h)) k
end
end Cp
