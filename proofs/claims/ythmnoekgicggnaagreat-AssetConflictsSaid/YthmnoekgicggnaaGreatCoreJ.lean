/-
  The chain of a drawn region step by step; operations that turn memory of ours; functions that do.
-/
import Derived.Test.YthmnoekgicggnaaGreatCoreI
namespace Cp
open Go Go.RowKit

section
variable {P : Program} {n : Nat} {E : Env} {M0 : Av} {w0 : World} {S : Nat → Prop} {o : Oper} {r : List Oper} {ops : Array Oper} {rs : List SR} {K : List X → Env → List SR → Prop}

/-- Just this value, and it reads so. -/
def andIs (v : Value) (p : Pr) : Pr where
  h M w u := u = v ∧ p.h M w u
  st _M _w _M' _w' _u he h := ⟨h.1, p.st _ _ _ _ _ he h.2⟩
theorem andIs_le (v : Value) (p : Pr) : Pr.le (andIs v p) p := fun _ _ _ h => h.2
theorem andIs_is (v : Value) (p : Pr) : Pr.le (andIs v p) (is v) := fun _ _ _ h => h.1
instance one_andIs (v : Value) (p : Pr) [One p] : One (andIs v p) := ⟨fun M w u h => One.one (p := p) M w u h.2⟩

theorem Cx.nil (h : K [] E rs) : Cx P M0 w0 S n ops [] E rs K := h
theorem Cx.op {d : Nat} {p : Pr} (hg : o.guard = none) (hd : o.dst = some d) (hn : d < n) (h : ∀ I : Asn, OpOK P I o E p) (k : Cx P M0 w0 S n ops r ((d, p) :: E) rs (fun L E' rs' => K (⟨o, p, .pure⟩ :: L) E' rs')) : Cx P M0 w0 S n ops (o :: r) E rs K :=
  ⟨p, .pure, by unfold XOK; simp only [hg]; exact h, fun d' hd' => by rw [hd] at hd'; cases hd'; exact hn, by unfold upd; rw [hd]; exact k⟩
theorem Cx.yes {d g j : Nat} {b want : Bool} {p : Pr} (hg : o.guard = some (j, want)) (hj : (ops[j]?).bind (·.dst) = some g) (hb : E.lookup g = some (bool b)) (hbw : b = want) (hd : o.dst = some d) (hn : d < n) (h : ∀ I : Asn, OpOK P I o E p)
    (k : Cx P M0 w0 S n ops r ((d, p) :: E) rs (fun L E' rs' => K (⟨o, p, .pure⟩ :: L) E' rs')) : Cx P M0 w0 S n ops (o :: r) E rs K :=
  ⟨p, .pure, by unfold XOK; simp only [hg]; exact ⟨g, some b, hj, hb, fun _ => h, fun hne => absurd (congrArg some hbw) hne⟩, fun d' hd' => by rw [hd] at hd'; cases hd'; exact hn, by unfold upd; rw [hd]; exact k⟩
theorem Cx.no {d g j : Nat} {b want : Bool} (hg : o.guard = some (j, want)) (hj : (ops[j]?).bind (·.dst) = some g) (hb : E.lookup g = some (bool b)) (hbw : b ≠ want) (hd : o.dst = some d) (hn : d < n)
    (k : Cx P M0 w0 S n ops r ((d, is undef) :: E) rs (fun L E' rs' => K (⟨o, is undef, .pure⟩ :: L) E' rs')) : Cx P M0 w0 S n ops (o :: r) E rs K :=
  ⟨is undef, .pure, by unfold XOK; simp only [hg]; exact ⟨g, some b, hj, hb, fun he => absurd (Option.some.inj he) hbw, fun _ => trivial⟩, fun d' hd' => by rw [hd] at hd'; cases hd'; exact hn, by unfold upd; rw [hd]; exact k⟩
theorem Cx.cases (g : Nat) {b : Bool} {l : List Oper} (_hb : E.lookup g = some (bool b)) (ht : b = true → Cx P M0 w0 S n ops l E rs K) (hf : b = false → Cx P M0 w0 S n ops l E rs K) : Cx P M0 w0 S n ops l E rs K := by
  cases b
  · exact hf rfl
  · exact ht rfl
theorem Cx.rd {d : Nat} {p : Pr} (j : Nat) {R : SR} (hR : rs[j]? = some R) (hg : o.guard = none) (hd : o.dst = some d) (hn : d < n) (h : OpRd P M0 w0 S j R o E p) (k : Cx P M0 w0 S n ops r ((d, p) :: E) rs (fun L E' rs' => K (⟨o, p, .rd j R⟩ :: L) E' rs')) : Cx P M0 w0 S n ops (o :: r) E rs K :=
  ⟨p, .rd j R, by unfold XOK; simp only [hg]; exact ⟨hR, h⟩, fun d' hd' => by rw [hd] at hd'; cases hd'; exact hn, by unfold upd; rw [hd]; exact k⟩
theorem Cx.rdyes {d g m : Nat} {b want : Bool} {p : Pr} (j : Nat) {R : SR} (hR : rs[j]? = some R) (hg : o.guard = some (m, want)) (hj : (ops[m]?).bind (·.dst) = some g) (hb : E.lookup g = some (bool b)) (hbw : b = want) (hd : o.dst = some d) (hn : d < n) (h : OpRd P M0 w0 S j R o E p)
    (k : Cx P M0 w0 S n ops r ((d, p) :: E) rs (fun L E' rs' => K (⟨o, p, .rd j R⟩ :: L) E' rs')) : Cx P M0 w0 S n ops (o :: r) E rs K :=
  ⟨p, .rd j R, by unfold XOK; simp only [hg]; exact ⟨hR, g, some b, hj, hb, fun _ => h, fun hne => absurd (congrArg some hbw) hne⟩, fun d' hd' => by rw [hd] at hd'; cases hd'; exact hn, by unfold upd; rw [hd]; exact k⟩
theorem Cx.ef {d : Nat} {p : Pr} (j : Nat) {R R' : SR} (hR : rs[j]? = some R) (hd : o.dst = some d) (hn : d < n) (h : OpEf P M0 w0 S n j R R' o E p) (k : Cx P M0 w0 S n ops r ((d, p) :: E) (rs.set j R') (fun L E' rs' => K (⟨o, p, .ef j R R'⟩ :: L) E' rs')) : Cx P M0 w0 S n ops (o :: r) E rs K :=
  ⟨p, .ef j R R', by unfold XOK; exact ⟨hR, h⟩, fun d' hd' => by rw [hd] at hd'; cases hd'; exact hn, by unfold upd; rw [hd]; exact k⟩
theorem Cx.ef0 {p : Pr} (j : Nat) {R R' : SR} (hR : rs[j]? = some R) (hd : o.dst = none) (h : OpEf P M0 w0 S n j R R' o E p) (k : Cx P M0 w0 S n ops r E (rs.set j R') (fun L E' rs' => K (⟨o, p, .ef j R R'⟩ :: L) E' rs')) : Cx P M0 w0 S n ops (o :: r) E rs K :=
  ⟨p, .ef j R R', by unfold XOK; exact ⟨hR, h⟩, (fun d' hd' => by rw [hd] at hd'; cases hd'), (by unfold upd; rw [hd]; exact k)⟩

/-- All are named. -/
inductive AllC : List SR → List Res → Prop where
  | map (rs : List Res) : AllC (rs.map SR.c) rs
  | cons {r : Res} {l : List SR} {m : List Res} (h : AllC l m) : AllC (SR.c r :: l) (r :: m)
theorem AllC.at_ {l : List SR} {m : List Res} (h : AllC l m) (a : Act) : l.map (·.at_ a) = m := by
  induction h with
  | map rs => rw [List.map_map]; exact List.map_id'' (fun r => rfl) rs
  | cons h ih => simp [ih, at_c]
theorem FinX.done {Q : Exit → Act → World → Prop} {rs0 : List Res} (h : AllC rs rs0) (k : Fin n E (Hp M0 w0 S rs0) Q .normal) : FinX n M0 w0 S E rs Q := by
  rintro a w ⟨M, h1, h2, h3, h4⟩
  rw [h.at_ a] at h4
  exact k a w ⟨M, h1, h2, h3, h4⟩
theorem FinX.open_ {Q : Exit → Act → World → Prop} (j s : Nat) {f : Value → Res} {p : Pr} (hR : rs[j]? = some ⟨s, f⟩) (hs : E.lookup s = some p) (k : ∀ v, FinX n M0 w0 S ((s, andIs v p) :: E) (rs.set j (SR.c (f v))) Q) : FinX n M0 w0 S E rs Q := by
  rintro a w ⟨M, h1, h2, h3, h4⟩
  refine k (a.tmps.getD s undef) a w ⟨M, h1, h2, ?_, ?_⟩
  · intro t q hq
    simp only [List.lookup] at hq
    by_cases ht : t = s
    · subst ht; simp only [beq_self_eq_true, Option.some.injEq] at hq; subst hq; exact ⟨rfl, h3 t p hs⟩
    · rw [show (t == s) = false by simpa using ht] at hq; exact h3 t q hq
  · have : (rs.set j (SR.c (f (a.tmps.getD s undef)))).map (·.at_ a) = rs.map (·.at_ a) := by
      rw [List.map_set]
      apply List.ext_getElem?
      intro i
      rw [List.getElem?_set]
      by_cases hij : j = i
      · subst hij
        rw [if_pos rfl]
        split
        · rw [List.getElem?_map, hR]; rfl
        · rename_i hge
          rw [List.getElem?_eq_none (by omega)]
      · rw [if_neg hij]
    rw [this]; exact h4

/-! ### The list of what we hold -/
theorem HpH.perm {rs rs' : List Res} {M : Av} {w : World} (hp : rs.Perm rs') (h : HpH M0 w0 S rs M w) : HpH M0 w0 S rs' M w :=
  ⟨h.m0, h.m, h.os, h.tape, h.output, h.size, h.block, h.bd, fun r hr => h.hold r (hp.mem_iff.2 hr),
    (hp.pairwise_iff (fun {_x _y} hxy b h1 h2 => hxy b h2 h1)).1 h.nd⟩
theorem perm_at {rs : List Res} {j : Nat} {r : Res} (hj : rs[j]? = some r) : rs.Perm (r :: rs.eraseIdx j) := by
  have hl : j < rs.length := by rcases Nat.lt_or_ge j rs.length with h | h; exact h; rw [List.getElem?_eq_none h] at hj; cases hj
  rw [List.getElem?_eq_getElem hl] at hj
  simp only [Option.some.injEq] at hj
  rw [← hj]
  clear hj
  induction rs generalizing j with
  | nil => simp at hl
  | cons a rs ih =>
    cases j with
    | zero => simp
    | succ j =>
      simp only [List.getElem_cons_succ, List.eraseIdx_cons_succ]
      exact ((ih (by simpa using hl)).cons a).trans (List.Perm.swap _ _ _)
theorem perm_set {rs : List Res} {j : Nat} {r : Res} (hl : j < rs.length) : (r :: rs.eraseIdx j).Perm (rs.set j r) := by
  have h1 : (rs.set j r)[j]? = some r := by rw [List.getElem?_set, if_pos rfl, if_pos hl]
  have h2 := perm_at h1
  rw [List.eraseIdx_set_eq] at h2
  exact h2.symm
theorem HpH.drop1 {rs : List Res} {M : Av} {w : World} {r : Res} (h : HpH M0 w0 S (r :: rs) M w) : HpH M0 w0 S rs M w :=
  ⟨h.m0, h.m, h.os, h.tape, h.output, h.size, h.block, h.bd, fun q hq => h.hold q (List.mem_cons_of_mem _ hq), (List.pairwise_cons.1 h.nd).2⟩
theorem HpH.add0 {rs : List Res} {M : Av} {w : World} {r : Res} (h : HpH M0 w0 S rs M w) (hb : r.blk = none) (hh : r.h M w) : HpH M0 w0 S (r :: rs) M w :=
  ⟨h.m0, h.m, h.os, h.tape, h.output, h.size, h.block, h.bd, fun q hq => by
    rcases List.mem_cons.1 hq with rfl | hq
    · exact ⟨hh, fun b hb' => by rw [hb] at hb'; cases hb'⟩
    · exact h.hold q hq, List.Pairwise.cons (fun q _ b hb' => by rw [hb] at hb'; cases hb') h.nd⟩

theorem St.pad {rs : List Res} {a : Act} {w : World} (h : St n E (Hp M0 w0 S rs) a w) : St n E (Hp M0 w0 S (noRes :: rs)) a w :=
  let ⟨M, h1, h2, h3, h4⟩ := h; ⟨M, h1, h2, h3, HpH.add0 h4 rfl trivial⟩
theorem St.drop {rs : List Res} {a : Act} {w : World} (i : Nat) (h : St n E (Hp M0 w0 S rs) a w) : St n E (Hp M0 w0 S (rs.eraseIdx i)) a w := by
  obtain ⟨M, h1, h2, h3, h4⟩ := h
  refine ⟨M, h1, h2, h3, ?_⟩
  show HpH M0 w0 S (rs.eraseIdx i) M w
  by_cases hi : i < rs.length
  · exact (HpH.perm (perm_at (List.getElem?_eq_getElem hi)) h4).drop1
  · rw [List.eraseIdx_of_length_le (by omega)]; exact h4
theorem Tr.pad {Q : Exit → Act → World → Prop} {c : Code} {rs : List Res} (h : Tr P n E (Hp M0 w0 S (noRes :: rs)) c Q) : Tr P n E (Hp M0 w0 S rs) c Q := Tr.conv (fun _ _ hs => hs.pad) h
theorem Tr.drop {Q : Exit → Act → World → Prop} {c : Code} {rs : List Res} (i : Nat) (h : Tr P n E (Hp M0 w0 S (rs.eraseIdx i)) c Q) : Tr P n E (Hp M0 w0 S rs) c Q := Tr.conv (fun _ _ hs => hs.drop i) h
theorem Fin.drop {Q : Exit → Act → World → Prop} {e : Exit} {rs : List Res} (i : Nat) (h : Fin n E (Hp M0 w0 S (rs.eraseIdx i)) Q e) : Fin n E (Hp M0 w0 S rs) Q e := Fin.conv (fun _ _ hs => hs.drop i) h
theorem TO.pad {Q : Exit → Act → World → Prop} {rs : List Res} (h : TO P n ops r E (Hp M0 w0 S (noRes :: rs)) Q) : TO P n ops r E (Hp M0 w0 S rs) Q := TO.conv (fun _ _ hs => hs.pad) h
theorem TO.drop {Q : Exit → Act → World → Prop} {rs : List Res} (i : Nat) (h : TO P n ops r E (Hp M0 w0 S (rs.eraseIdx i)) Q) : TO P n ops r E (Hp M0 w0 S rs) Q := TO.conv (fun _ _ hs => hs.drop i) h

/-! ### In a region that keeps to the text -/
theorem TO.efc {Q : Exit → Act → World → Prop} {rs : List Res} {d : Nat} {p : Pr} (j : Nat) {R : Res} {R' : Res} (hR : rs[j]? = some R) (hd : o.dst = some d) (hn : d < n) (h : OpEf P M0 w0 S n j (SR.c R) (SR.c R') o E p)
    (k : TO P n ops r ((d, p) :: E) (Hp M0 w0 S (rs.set j R')) Q) : TO P n ops (o :: r) E (Hp M0 w0 S rs) Q :=
  TO.eff h.1 fun K M w a hsz hdf he hI hK => step_ef (h.2 M w a rs hsz (looks_env he) hI hR) fun v w' M' hv hx hI' => hK _ _ _ _ k ⟨M', by rw [put_size]; exact hsz, by rw [put_defers]; exact hdf, by
    intro s q hq
    simp only [List.lookup] at hq
    by_cases hs : s = d
    · subst hs; simp at hq; subst hq; rw [hd, put_same (by rw [hsz]; exact hn)]; exact hv
    · rw [show (s == d) = false by simpa using hs] at hq; rw [hd, put_other hs]; exact q.st _ _ _ _ _ hx (he s q hq), hI'⟩
theorem TO.efs {Q : Exit → Act → World → Prop} {rs : List Res} {d : Nat} {p : Pr} (j : Nat) {R : Res} {f : Value → Res} (hR : rs[j]? = some R) (hd : o.dst = some d) (hn : d < n) (h : OpEf P M0 w0 S n j (SR.c R) ⟨d, f⟩ o E p)
    (k : ∀ v, TO P n ops r ((d, andIs v p) :: E) (Hp M0 w0 S (rs.set j (f v))) Q) : TO P n ops (o :: r) E (Hp M0 w0 S rs) Q :=
  TO.eff h.1 fun K M w a hsz hdf he hI hK => step_ef (h.2 M w a rs hsz (looks_env he) hI hR) fun v w' M' hv hx hI' => hK _ _ _ _ (k v) ⟨M', by rw [put_size]; exact hsz, by rw [put_defers]; exact hdf, by
    intro s q hq
    simp only [List.lookup] at hq
    by_cases hs : s = d
    · subst hs; simp at hq; subst hq; rw [hd, put_same (by rw [hsz]; exact hn)]; exact ⟨rfl, hv⟩
    · rw [show (s == d) = false by simpa using hs] at hq; rw [hd, put_other hs]; exact q.st _ _ _ _ _ hx (he s q hq), by
    have : (SR.at_ (a.put o.dst v) ⟨d, f⟩) = f v := by unfold SR.at_; rw [hd, put_same (by rw [hsz]; exact hn)]
    rw [this] at hI'; exact hI'⟩
theorem TO.ef0 {Q : Exit → Act → World → Prop} {rs : List Res} {p : Pr} (j : Nat) {R : Res} {R' : Res} (hR : rs[j]? = some R) (hd : o.dst = none) (h : OpEf P M0 w0 S n j (SR.c R) (SR.c R') o E p)
    (k : TO P n ops r E (Hp M0 w0 S (rs.set j R')) Q) : TO P n ops (o :: r) E (Hp M0 w0 S rs) Q :=
  TO.eff h.1 fun K M w a hsz hdf he hI hK => step_ef (h.2 M w a rs hsz (looks_env he) hI hR) fun v w' M' hv hx hI' => hK _ _ _ _ k ⟨M', by rw [put_size]; exact hsz, by rw [put_defers]; exact hdf, by
    intro s q hq; rw [hd]; exact q.st _ _ _ _ _ hx (he s q hq), hI'⟩
theorem TO.rd {Q : Exit → Act → World → Prop} {rs : List Res} {d : Nat} {p : Pr} (j : Nat) {R : Res} (hR : rs[j]? = some R) (hg : o.guard = none) (hd : o.dst = some d) (hn : d < n) (h : OpRd P M0 w0 S j (SR.c R) o E p)
    (k : TO P n ops r ((d, p) :: E) (Hp M0 w0 S rs) Q) : TO P n ops (o :: r) E (Hp M0 w0 S rs) Q :=
  TO.op hg hd hn (I := Hp M0 w0 S rs) (fun M w a he hI => h M w a rs he hI hR) k
/-- A load of memory of ours, where nothing else happens. -/
theorem ok_rd {rs : List Res} {p : Pr} (j : Nat) {R : Res} (hR : rs[j]? = some R) (h : OpRd P M0 w0 S j (SR.c R) o E p) : OpOK P (Hp M0 w0 S rs) o E p := fun M w a he hI => h M w a rs he hI hR

/-! ### Addresses -/
abbrev ptr (b off : Nat) : Pr := is (.pointer (some ⟨b, off, none⟩))
theorem addr_add (b off k : Nat) : Addr.add ⟨b, off, none⟩ k = ⟨b, off + k, none⟩ := by unfold Addr.add; split <;> simp_all
section
variable {I : Asn}
theorem okp_fieldAddr {s : TypeId} {x : Operand} {f k b off : Nat} (ho : o.op = .fieldAddr s x f) (hk : fieldOff P s f = some k) (hx : VL E x (ptr b off)) : OpOK P I o E (ptr b (off + k)) :=
  OpOK.same fun M w a he _ => by
    have h1 : a.eval x = _ := hx.ev he (by simp [ho, Op.operands])
    refine ⟨.pointer (some ⟨b, off + k, none⟩), ?_, rfl⟩
    simp [execOp, ho, h1, run_fieldAt hk, addr_add]
theorem okp_nilCheck {x : Operand} {b off : Nat} (ho : o.op = .nilCheck x) (hx : VL E x (ptr b off)) : OpOK P I o E (ptr b off) :=
  OpOK.same fun M w a he _ => by
    have h1 : a.eval x = _ := hx.ev he (by simp [ho, Op.operands])
    exact ⟨_, by simp [execOp, ho, h1], rfl⟩
theorem okp_indexArr {t e : TypeId} {x y : Operand} {k : IntKind} {i : Int} {len sz b off : Nat} (ho : o.op = .indexAddr t x y) (ht : P.underlying t = some (.array len e)) (hz : sizeB P e = some sz) (hx : VL E x (ptr b off)) (hy : VL E y (is (.int k i)))
    (h0 : 0 ≤ i) (hl : i < len) : OpOK P I o E (ptr b (off + i.toNat * sz)) :=
  OpOK.same fun M w a he _ => by
    have h1 : a.eval x = _ := hx.ev he (by simp [ho, Op.operands])
    have h5 : a.eval y = .int k i := hy.ev he (by simp [ho, Op.operands])
    refine ⟨_, ?_, rfl⟩
    simp [execOp, ho, h1, h5, Instr.indexAt, asIntOf, run_underlying ht, run_size hz, h0, hl, Instr.sureAddr, addr_add]
theorem ok_indexArr {t e : TypeId} {x y : Operand} {k : IntKind} {i : Int} {len sz : Nat} {ps qs : List Pr} (ho : o.op = .indexAddr t x y) (ht : P.underlying t = some (.array len e)) (hz : sizeB P e = some sz) (hx : VL E x (ref ps)) (hy : VL E y (is (.int k i)))
    (h0 : 0 ≤ i) (hl : i < len) (hq : ps.drop (i.toNat * sz) = qs) : OpOK P I o E (ref qs) :=
  OpOK.same fun M w a he _ => by
    obtain ⟨ad, h1, h2⟩ := hx.ev he (by simp [ho, Op.operands])
    have h5 : a.eval y = .int k i := hy.ev he (by simp [ho, Op.operands])
    refine ⟨.pointer (some (ad.add (i.toNat * sz))), ?_, _, rfl, by rw [← hq]; exact h2.drop⟩
    simp [execOp, ho, h1, h5, Instr.indexAt, asIntOf, run_underlying ht, run_size hz, h0, hl, Instr.sureAddr]
theorem ok_load_hd {t : TypeId} {x : Operand} {p : Pr} {ps : List Pr} (ho : o.op = .load t x) (ht : oneB P t = true) (hx : VL E x (ref ps)) (hp : ps[0]? = some p) : OpOK P I o E p := by
  cases ps with
  | nil => simp at hp
  | cons q ps => simp at hp; subst hp; exact ok_load1 ho ht hx
end

/-! ### Loads and stores of memory of ours -/
theorem rd_load1 {t : TypeId} {x : Operand} {j : Nat} {new : Bool} {b off : Nat} {T : TypeId} {ps : List Pr} {p : Pr} (ho : o.op = .load t x) (ht : oneB P t = true) (hx : VL E x (ptr b off)) (hp : ps[off]? = some p) : OpRd P M0 w0 S j (SR.c (cellsRes new b T ps)) o E p := by
  intro M w a rs he hI hj
  have h1 : a.eval x = _ := hx.ev he (by simp [ho, Op.operands])
  obtain ⟨⟨_, cs, h4, h5, _⟩, _⟩ := hI.hold _ (List.mem_of_getElem? hj)
  obtain ⟨v, hv, hh⟩ := h5.at_ off p hp
  have hc : w.cell? ⟨b, off, none⟩ = some v := by simp [World.cell?, h4, hv]
  have hrun : (execOp a.eval o).run P w = .ok (.value v) w := by simp [execOp, ho, h1, Instr.loadAt, Instr.sureAddr, loadVar, run_isAgg_one ht, hc]
  rw [hrun]
  exact ⟨hh, Below.refl _ _⟩
theorem rd_loadA {t : TypeId} {x : Operand} {j : Nat} {new : Bool} {b off m : Nat} {T : TypeId} {ps qs : List Pr} (ho : o.op = .load t x) (ht : aggB P t = true) (hz : sizeB P t = some m) (hx : VL E x (ptr b off)) (hq : (ps.drop off).take m = qs) (hm : qs.length = m) :
    OpRd P M0 w0 S j (SR.c (cellsRes new b T ps)) o E (agg qs) := by
  intro M w a rs he hI hj
  have h1 : a.eval x = _ := hx.ev he (by simp [ho, Op.operands])
  obtain ⟨⟨_, cs, h4, h5, h6⟩, _⟩ := hI.hold _ (List.mem_of_getElem? hj)
  have h7 : HL M w qs ((cs.drop off).take m) := by rw [← hq]; exact (h5.drop off).take m
  have hl : ((cs.drop off).take m).length = m := by rw [h7.length, hm]
  have hrun : (loadCells ⟨b, off, none⟩ m).run P w = .ok ((cs.drop off).take m).toArray w := by
    have := run_loadCells_list (P := P) w ⟨b, off, none⟩ ((cs.drop off).take m) (fun k v hv => by
      rw [addr_add]
      rw [List.getElem?_take] at hv
      split at hv
      · rw [List.getElem?_drop] at hv; simp [World.cell?, h4, hv]
      · cases hv)
    rwa [hl] at this
  have hrun2 : (execOp a.eval o).run P w = .ok (.value (.agg ((cs.drop off).take m).toArray)) w := by simp [execOp, ho, h1, Instr.loadAt, Instr.sureAddr, loadVar, run_isAgg_agg ht, run_size hz, hrun]
  rw [hrun2]
  exact ⟨⟨_, rfl, fun c hc => h6 c (List.mem_of_mem_drop (List.mem_of_mem_take hc)), h7⟩, Below.refl _ _⟩

theorem ef_store {t : TypeId} {x y : Operand} {j : Nat} {new : Bool} {b off m : Nat} {T : TypeId} {ps qs ps' : List Pr} (hg : o.guard = none) (ho : o.op = .store t x y) (hx : VL E x (ptr b off)) (hy : VL E y (cellsP qs))
    (hz : sizeB P t = some m) (hm : qs.length = m) (hl : off + m ≤ ps.length) (hps : ps.take off ++ qs ++ ps.drop (off + m) = ps') : OpEf P M0 w0 S n j (SR.c (cellsRes new b T ps)) (SR.c (cellsRes new b T ps')) o E any := by
  refine ⟨hg, fun M w a rs hsz he hI hj => ?_⟩
  have h1 : a.eval x = .pointer (some ⟨b, off, none⟩) := hx.ev he (by simp [ho, Op.operands])
  obtain ⟨h2, h3⟩ := hy.ev he (show y ∈ o.op.operands.toList by simp [ho, Op.operands])
  obtain ⟨⟨_, cs, h4, h5, h6⟩, _⟩ := hI.hold _ (List.mem_of_getElem? hj)
  have h5l := h5.length
  have h2l := h2.length
  have hcells : (a.eval y).cells.size = m := by rw [← hm, ← h2l]; simp
  have hrun : (storeCells ⟨b, off, none⟩ (a.eval y).cells.toList 0).run P w = .ok () (w.setRow b (cs.take off ++ (a.eval y).cells.toList ++ cs.drop (off + m)).toArray) := by
    have := run_storeCells_at (P := P) b off T (a.eval y).cells.toList 0 cs.toArray w h4 (by simp; omega) h3
    simpa [hcells] using this
  have hrun2 : (execOp a.eval o).run P w = .ok .skip (w.setRow b (cs.take off ++ (a.eval y).cells.toList ++ cs.drop (off + m)).toArray) := by
    simp [execOp, ho, h1, Instr.storeAt, Instr.sureAddr, storeVar, run_size hz, hcells, hrun]
  rw [hrun2]
  obtain ⟨h7, h8⟩ := HpH.write (qs := ps') (cs := cs.take off ++ (a.eval y).cells.toList ++ cs.drop (off + m)) hI hj (by rw [← hps]; exact (((h5.take off).app h2)).app (h5.drop (off + m)))
    (fun c hc => by
      simp only [List.mem_append] at hc
      rcases hc with (hc | hc) | hc
      · exact h6 c (List.mem_of_mem_take hc)
      · exact h3 c hc
      · exact h6 c (List.mem_of_mem_drop hc))
  exact ⟨M, trivial, h8, h7⟩

/-! ### append -/
theorem ef_append {t e : TypeId} {x y : Operand} {sz bytes d : Nat} {zs : List Value} {rows rows' : List (List Pr)} {j : Nat} {R : SR} (hg : o.guard = none) (hd : o.dst = some d) (hn : d < n) (ho : o.op = .call { callee := .builtin .append, args := #[x, y], argTypes := #[t, t] })
    (ht : P.underlying t = some (.slice e)) (hz : sizeB P e = some sz) (hby : bytesB P e = some bytes) (hze : zeroB P e = some zs) (hzl : zs.length = sz) (hsz : 0 < sz)
    (hx : VL E x (slice sz rows)) (hy : VL E y (slice sz rows')) (hmax : rows.length + rows'.length ≤ maxLen) (hfit : (rows.length + rows'.length) * bytes ≤ 140737488355328)
    (hR : ∀ M w (a : Act), EnvFor M w E o a → R.at_ a = appRes e sz (a.eval x) ∨ (R.at_ a = noRes ∧ appBlk (a.eval x) = none)) : OpEf P M0 w0 S n j R ⟨d, appRes e sz⟩ o E (slice sz (rows ++ rows')) := by
  refine ⟨hg, fun M w a rs hszn he hI hj => ?_⟩
  have h1 := hx.ev he (by simp [ho, Op.operands, Call.operands])
  have h2 := hy.ev he (by simp [ho, Op.operands, Call.operands])
  obtain ⟨v', w', M', hrun, h3, h4, h5⟩ := app_core (ty := o.type) ht hz hby hze hzl hsz hI hj (hR M w a he) h1 h2 hmax hfit
  have hrun2 : (execOp a.eval o).run P w = .ok (.value v') w' := by simp [execOp, ho, resolve, invoke, builtin, hrun]
  rw [hrun2]
  refine ⟨M', h3, h4, ?_⟩
  have : (SR.at_ (a.put o.dst v') ⟨d, appRes e sz⟩) = appRes e sz v' := by unfold SR.at_; rw [hd, put_same (by rw [hszn]; exact hn)]
  rw [this]; exact h5
/-- The value goes on into another slot, and our word on it with it. -/
theorem ef_move {x d : Nat} {f : Value → Res} {p : Pr} {j : Nat} (hg : o.guard = none) (hd : o.dst = some d) (hn : d < n) (ho : o.op = .assign (.tmp x)) (hx : VL E (.tmp x) p) : OpEf P M0 w0 S n j ⟨x, f⟩ ⟨d, f⟩ o E p := by
  refine ⟨hg, fun M w a rs hsz he hI hj => ?_⟩
  have h1 := hx.ev he (by simp [ho, Op.operands])
  have hrun : (execOp a.eval o).run P w = .ok (.value (a.eval (.tmp x))) w := by simp [execOp, ho]
  rw [hrun]
  refine ⟨M, h1, Ext.refl _ _, ?_⟩
  have : (SR.at_ (a.put o.dst (a.eval (.tmp x))) ⟨d, f⟩) = SR.at_ a ⟨x, f⟩ := by unfold SR.at_; rw [hd, put_same (by rw [hsz]; exact hn)]; rfl
  rw [this]
  have hjl : j < rs.length := by rcases Nat.lt_or_ge j rs.length with h | h; exact h; rw [List.getElem?_eq_none h] at hj; cases hj
  have : rs.set j (SR.at_ a ⟨x, f⟩) = rs := by
    apply List.ext_getElem?
    intro i
    rw [List.getElem?_set]
    by_cases e : j = i
    · subst e; rw [if_pos rfl, if_pos hjl, hj]
    · rw [if_neg e]
  rw [this]; exact hI
/-- onto what lies in a slot that is ours -/
theorem appR_slot {e : TypeId} {sz s : Nat} : ∀ (M : Av) (w : World) (a : Act), EnvFor M w E o a → SR.at_ a ⟨s, appRes e sz⟩ = appRes e sz (a.eval (.tmp s)) ∨ (SR.at_ a ⟨s, appRes e sz⟩ = noRes ∧ appBlk (a.eval (.tmp s)) = none) := fun _ _ _ _ => .inl rfl
/-- onto a named one -/
theorem appR_is {e : TypeId} {sz : Nat} {x : Operand} {v : Value} (hm : x ∈ o.op.operands.toList) (hx : VL E x (is v)) : ∀ (M : Av) (w : World) (a : Act), EnvFor M w E o a → SR.at_ a (SR.c (appRes e sz v)) = appRes e sz (a.eval x) ∨ (SR.at_ a (SR.c (appRes e sz v)) = noRes ∧ appBlk (a.eval x) = none) := by
  intro M w a he
  have h1 : a.eval x = v := hx.ev he hm
  rw [h1]; exact .inl rfl
/-- onto one without room -/
theorem appR_full {e : TypeId} {sz sz' : Nat} {x : Operand} {rows : List (List Pr)} (hm : x ∈ o.op.operands.toList) (hx : VL E x (full sz' rows)) : ∀ (M : Av) (w : World) (a : Act), EnvFor M w E o a → SR.at_ a (SR.c noRes) = appRes e sz (a.eval x) ∨ (SR.at_ a (SR.c noRes) = noRes ∧ appBlk (a.eval x) = none) := by
  intro M w a he
  obtain ⟨_, A, h1⟩ := hx.ev he hm
  refine .inr ⟨rfl, ?_⟩
  rw [h1]
  cases A <;> simp [appBlk]
theorem nil_full (sz : Nat) : Pr.le (is (.slice none 0 0)) (full sz []) := by
  rintro M w v rfl
  exact ⟨⟨none, 0, rfl, Nat.le_refl _, Nat.zero_le _, fun _ => rfl, fun i row h => by simp at h⟩, none, rfl⟩
theorem nil_slice (sz : Nat) : Pr.le (is (.slice none 0 0)) (slice sz []) := Pr.le_trans (nil_full sz) (full_le sz [])

/-! ### Functions that turn memory of the caller's -/

/-- Where a function began. -/
def extRes (M1 : Av) (w1 : World) : Res := ⟨none, true, fun M w => Ext M1 w1 M w, fun _ _ _ _ he _ h => h.trans he⟩

def FunM (P : Program) (f : FuncId) (args : List Pr) (res : Pr) (r : Res) (r' : Value → Res) : Prop := Entry P f ∧ ∀ M0 w0 S rs M w vs, HpH M0 w0 S (r :: rs) M w → HL M w args vs →
  Calls P f vs.toArray w fun e w' => ∃ v M', e = .returned v ∧ res.h M' w' v ∧ Ext M w M' w' ∧ HpH M0 w0 S (r' v :: rs) M' w'

def BackM (M0 : Av) (w0 : World) (S : Nat → Prop) (rs : List Res) (M1 : Av) (w1 : World) (res : Pr) (r' : Value → Res) (e : Ending) (w' : World) : Prop := ∃ v M', e = .returned v ∧ res.h M' w' v ∧ Ext M1 w1 M' w' ∧ HpH M0 w0 S (r' v :: rs) M' w'

theorem FunM.of {f : FuncId} {g : Func} {c : Code} {ps : List Pr} {res : Pr} {R : Res} {R' : Value → Res} (hf : P.funcs[f]? = some g) (hb : g.body = some c) (hname : (g.name == "runtime.NumGoroutine") = false) (hlen : ps.length ≤ g.ntmps)
    (h : ∀ M0 w0 S rs M1 w1, Tr P g.ntmps (penv 0 ps) (Hp M0 w0 S (R :: extRes M1 w1 :: rs)) c (bodyPost P g (BackM M0 w0 S rs M1 w1 res R'))) : FunM P f ps res R R' := by
  refine ⟨⟨g, hf, hname, by rw [hb]; rfl⟩, fun M0 w0 S rs M w vs hI hv => ?_⟩
  refine calls_of_wp hf hb (h M0 w0 S rs M w _ _ ⟨M, ?_, rfl, enter_env hv, ?_⟩)
  · have := hv.length
    simp [this]; omega
  · exact HpH.perm (List.Perm.swap _ _ _) (HpH.add0 hI (r := extRes M w) rfl (Ext.refl _ _))

theorem ef_call {f : FuncId} {xs : Array Operand} {ts : Array TypeId} {ps : List Pr} {res : Pr} {j d : Nat} {R0 : Res} {R' : Value → Res} (hg : o.guard = none) (hd : o.dst = some d) (hn : d < n) (ho : o.op = .call { callee := .value (.func f), args := xs, argTypes := ts }) (hf : FunM P f ps res R0 R')
    (hv : Vals E xs.toList ps) : OpEf P M0 w0 S n j (SR.c R0) ⟨d, R'⟩ o E res := by
  refine ⟨hg, fun M w a rs hsz he hI hj => ?_⟩
  have h1 := Vals.evalFor (o := o) he (xs := xs.toList) (fun x hx => by simp [ho, Op.operands, Call.operands]; exact .inr (by simpa using hx)) hv
  have hrun : (execOp a.eval o).run P w = .ok (.enter f (xs.toList.map a.eval).toArray) w := by
    simp [execOp, ho, resolve, Deferred.ofValue, Act.eval, invoke, run_callFunc hf.1, map_list xs]
  rw [hrun]
  have hj' : rs[j]? = some R0 := hj
  have hjl : j < rs.length := by rcases Nat.lt_or_ge j rs.length with h | h; exact h; rw [List.getElem?_eq_none h] at hj'; cases hj'
  refine (hf.2 M0 w0 S (rs.eraseIdx j) M w _ (HpH.perm (perm_at hj') hI) h1).mono ?_
  rintro e w' ⟨v, M', rfl, h2, h3, h4⟩
  refine ⟨v, M', rfl, h2, h3, ?_⟩
  have : (SR.at_ (a.put o.dst v) ⟨d, R'⟩) = R' v := by unfold SR.at_; rw [hd, put_same (by rw [hsz]; exact hn)]
  rw [this]
  exact HpH.perm (perm_set hjl) h4
theorem ef_callc {f : FuncId} {xs : Array Operand} {ts : Array TypeId} {ps : List Pr} {res : Pr} {j d : Nat} {R0 R1 : Res} (hg : o.guard = none) (hd : o.dst = some d) (hn : d < n) (ho : o.op = .call { callee := .value (.func f), args := xs, argTypes := ts }) (hf : FunM P f ps res R0 (fun _ => R1))
    (hv : Vals E xs.toList ps) : OpEf P M0 w0 S n j (SR.c R0) (SR.c R1) o E res := by
  obtain ⟨h1, h2⟩ := ef_call (j := j) (M0 := M0) (w0 := w0) (S := S) hg hd hn ho hf hv
  exact ⟨h1, fun M w a rs hsz he hI hj => h2 M w a rs hsz he hI hj⟩

end
end Cp
