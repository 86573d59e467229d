/-
  Part 3 of the texts that prove this claim, merged.
-/
import Derived.Lib.Bytealg
import Derived.Test.YtppeeogffbpcbaaGreatRows
import Derived.Test.YtppeeogffbpcbaaGreatHlAP2
set_option linter.all false
set_option maxRecDepth 40000
set_option maxHeartbeats 16000000
namespace Cp
open Go Go.RowKit Go.Great
section
variable {P : Program} {n : Nat} {E : Env} {M0 : Av} {w0 : World} {S : Nat → Prop} {rs : List Res} {o : Oper}
def oweBlk : Value → Option Nat
 | .slice (some a) _ (_ + 1) => some a.block
 | _ => none
/-- A slice of ours: nothing (nil or not), or its elements and what lies behind them. -/
def oweRes (e : TypeId) (sz : Nat) (rows : List (List Pr)) (v : Value) : Res where
 blk := oweBlk v
 new := true
 h M w := (rows = [] ∧ ∃ A, v = .slice A 0 0) ∨ (∃ (b cap : Nat) (spare : List Value), v = .slice (some ⟨b, 0, none⟩) rows.length (cap + 1) ∧ rows.length ≤ cap + 1 ∧ cap + 1 ≤ maxLen ∧ spare.length = (cap + 1 - rows.length) * sz ∧ (cellsRes true b e (rows.flatten ++ spare.map is)).h M w)
 st M w M' w' he hk h := by
  rcases h with h | ⟨b, cap, spare, rfl, h1, h2, h3, h4⟩
  · exact .inl h
  · exact .inr ⟨b, cap, spare, rfl, h1, h2, h3, (cellsRes true b e _).st _ _ _ _ he hk h4⟩
theorem lt_of_at {α : Type} {l : List α} {j : Nat} {x : α} (h : l[j]? = some x) : j < l.length := by
 rcases Nat.lt_or_ge j l.length with h' | h'
 · exact h'
 · rw [List.getElem?_eq_none h'] at h; cases h
theorem HpH.blank {M : Av} {w : World} {j : Nat} {r : Res} (h : HpH M0 w0 S rs M w) (hj : rs[j]? = some r) : HpH M0 w0 S (rs.set j noRes) M w :=
 HpH.perm (perm_set (lt_of_at hj)) ((HpH.perm (perm_at hj) h).drop1.add0 (r := noRes) rfl trivial)
theorem void_slice (sz : Nat) (A : Option Addr) (M : Av) (w : World) : (slice sz []).h M w (.slice A 0 0) := ⟨A, 0, rfl, Nat.le_refl _, Nat.zero_le _, fun _ => rfl, fun i row h => by simp at h⟩
theorem void_full (sz : Nat) (A : Option Addr) (M : Av) (w : World) : (full sz []).h M w (.slice A 0 0) := ⟨void_slice sz A M w, A, rfl⟩
/-- It is turned no more. -/
theorem HpH.frzW {M : Av} {w : World} {sz : Nat} {e : TypeId} {rows : List (List Pr)} {v : Value} {j : Nat} (h : HpH M0 w0 S rs M w) (hj : rs[j]? = some (oweRes e sz rows v)) (hl : ∀ r ∈ rows, r.length = sz) :
  ∃ M', Ext M w M' w ∧ HpH M0 w0 S (rs.set j noRes) M' w ∧ (slice sz rows).h M' w v := by
 have hjl := lt_of_at hj
 rcases (h.hold _ (List.mem_of_getElem? hj)).1 with ⟨rfl, A, rfl⟩ | ⟨b, cap, spare, rfl, hnc, hcm, hsp, hcr⟩
 · exact ⟨M, Ext.refl _ _, h.blank hj, void_slice sz A M w⟩
 ·
  have hC := h.swap1 (r' := cellsRes true b e (rows.flatten ++ spare.map is)) hj rfl rfl hcr
  obtain ⟨M', h1, h2, h3⟩ := HpH.frz hC (List.getElem?_set_self hjl) hl hnc hcm (by rw [List.length_map]; exact hsp)
  have h4 := h2.blank (j := j) (by rw [List.set_set]; exact List.getElem?_set_self hjl)
  rw [List.set_set, List.set_set] at h4
  exact ⟨M', h1, h4, h3⟩
theorem HL.set {M : Av} {w : World} {ps : List Pr} {vs : List Value} {k : Nat} {p q : Pr} (h : HL M w ps vs) (hk : ps[k]? = some p) (hq : ∀ u, p.h M w u → q.h M w u) : HL M w (ps.set k q) vs := by
 refine hl_of (by rw [h.length]; simp) fun k' p' hk' => ?_
 rw [List.getElem?_set] at hk'
 split at hk'
 ·
  rename_i e1
  subst e1
  split at hk'
  ·
   obtain ⟨u, hu, hpu⟩ := h.at_ k p hk
   simp at hk'; subst hk'
   exact ⟨u, hu, hq u hpu⟩
  · cases hk'
 · exact h.at_ k' p' hk'
/-- .. and a cell of ours holds it. -/
theorem HpH.frzWC {M : Av} {w : World} {i j k sz b : Nat} {new : Bool} {T e : TypeId} {ps : List Pr} {rows : List (List Pr)} {v : Value} (h : HpH M0 w0 S rs M w) (hi : rs[i]? = some (cellsRes new b T ps)) (hj : rs[j]? = some (oweRes e sz rows v)) (hij : j ≠ i) (hk : ps[k]? = some (is v)) (hl : ∀ r ∈ rows, r.length = sz) :
  ∃ M', Ext M w M' w ∧ HpH M0 w0 S ((rs.set j noRes).set i (cellsRes new b T (ps.set k (slice sz rows)))) M' w := by
 obtain ⟨M', h1, h2, h3⟩ := h.frzW hj hl
 have hi' : (rs.set j noRes)[i]? = some (cellsRes new b T ps) := by rw [List.getElem?_set_ne hij]; exact hi
 refine ⟨M', h1, h2.swap1 hi' rfl rfl ?_⟩
 obtain ⟨g1, cs, g2, g3, g4⟩ := (h2.hold _ (List.mem_of_getElem? hi')).1
 exact ⟨g1, cs, g2, g3.set hk (fun u hu => by rw [show u = v from hu]; exact h3), g4⟩
/-- What a function on such a slice does, case by case. -/
theorem FunM.owe_cases {f : FuncId} {e : TypeId} {sz : Nat} {rows : List (List Pr)} {v : Value} {ps : List Pr} {res : Pr} {R' : Value → Res} (hE : Entry P f) (h0 : rows = [] → FunM P f (full sz [] :: ps) res noRes R')
  (h1 : ∀ (b cap : Nat) (sp : List Value), rows.length ≤ cap → cap ≤ maxLen → sp.length = (cap - rows.length) * sz → FunM P f (andIs (.slice (some ⟨b, 0, none⟩) rows.length cap) (lens rows.length) :: ps) res (cellsRes true b e (rows.flatten ++ sp.map is)) R') :
  FunM P f (is v :: ps) res (oweRes e sz rows v) R' := by
 refine ⟨hE, fun M0 w0 S rs M w vs hI hv => ?_⟩
 match vs, hv with
 | u0 :: vs1, hv1 =>
  obtain ⟨hu0, hv2⟩ := hv1
  obtain rfl : u0 = v := hu0
  rcases (hI.hold _ (List.mem_cons_self ..)).1 with ⟨hnil, A, rfl⟩ | ⟨b, cap, spare, rfl, hnc, hcm, hsp, hcr⟩
  · exact (h0 hnil).2 M0 w0 S rs M w _ (hI.blank (j := 0) rfl) (show HL M w (_ :: _) (_ :: vs1) from ⟨void_full sz A M w, hv2⟩)
  ·
   have hC := hI.swap1 (i := 0) (r' := cellsRes true b e (rows.flatten ++ spare.map is)) rfl rfl rfl hcr
   exact (h1 b (cap + 1) spare hnc hcm hsp).2 M0 w0 S rs M w _ hC (show HL M w (_ :: _) (_ :: vs1) from ⟨⟨rfl, _, _, rfl⟩, hv2⟩)
/-- One that only reads. -/
theorem FunM.owe_pure {f : FuncId} {e : TypeId} {sz : Nat} {rows : List (List Pr)} {v : Value} {ps : List Pr} {res : Pr} [Free res] (hl : ∀ r ∈ rows, r.length = sz) (h : Fun P f (slice sz rows :: ps) res) :
  FunM P f (is v :: ps) res (oweRes e sz rows v) (fun _ => oweRes e sz rows v) := by
 refine ⟨h.1, fun M0 w0 S rs M w vs hI hv => ?_⟩
 match vs, hv with
 | u0 :: vs1, hv1 =>
  obtain ⟨hu0, hv2⟩ := hv1
  obtain rfl : u0 = v := hu0
  obtain ⟨M', hx, hI', hs⟩ := HpH.frzW (j := 0) hI rfl hl
  refine (h.2 M' w _ hI'.bd (show HL M' w (_ :: _) (_ :: vs1) from ⟨hs, hv2.st hx⟩)).mono ?_
  rintro e' w' ⟨u, rfl, h2, h3⟩
  exact ⟨u, M, rfl, Free.free _ _ _ _ h2, Ext.below h3, (Hp M0 w0 S _).st _ _ _ h3 hI⟩
/-- What v[k:] makes of v. -/
def part (sz : Nat) (v : Value) (k : Nat) : Pr where
 h _ _ u := ∃ a m c, v = .slice a m c ∧ k ≤ m ∧ u = .slice (if c = k then a else a.map fun x => x.add (k * sz)) (m - k) (c - k)
 st _M _w _M' _w' _v _ h := h
instance one_part (sz : Nat) (v : Value) (k : Nat) : One (part sz v k) := ⟨by rintro M w u ⟨a, m, c, h1, h2, rfl⟩; exact ⟨rfl, rfl⟩⟩
theorem part_slice {sz k : Nat} {rows : List (List Pr)} {v u : Value} {M : Av} {w : World} (h : (slice sz rows).h M w v) (hu : (part sz v k).h M w u) : (slice sz (rows.drop k)).h M w u := by
 obtain ⟨A, cap, rfl, hc, hm, hA, hr⟩ := h
 obtain ⟨a, m, c, hv, hk, rfl⟩ := hu
 injection hv with e1 e2 e3
 subst e1; subst e2; subst e3
 refine ⟨_, cap - k, by rw [List.length_drop], by rw [List.length_drop]; omega, by omega, fun hn => ?_, fun i row hi => ?_⟩
 ·
  split at hn
  · have := hA hn; omega
  ·
   cases A with
   | none => have := hA rfl; omega
   | some x => cases hn
 ·
  rw [List.getElem?_drop] at hi
  obtain ⟨h1, ad, rfl, h3⟩ := hr _ _ hi
  have := lt_of_at hi
  refine ⟨h1, ad.add (k * sz), by rw [if_neg (by omega)]; rfl, fun j p hp => ?_⟩
  obtain ⟨q, h4, h5, h6, h7⟩ := h3 j p hp
  have e : k * sz + (i * sz + j) = (k + i) * sz + j := by rw [Nat.add_mul]; omega
  exact ⟨q, by rw [add_add, e]; exact h4, by rw [add_block, add_off, Nat.add_assoc, e]; exact h5, h6, h7⟩
/-- A slice that a function makes is turned no more. -/
theorem FunM.frz {f : FuncId} {args : List Pr} {e : TypeId} {sz m : Nat} {rows : List (List Pr)} {R : Res} (hl : ∀ r ∈ rows, r.length = sz) (h : FunM P f args (lens m) R (fun v => ownRes e sz rows v)) : FunM P f args (slice sz rows) R (fun _ => noRes) := by
 refine ⟨h.1, fun M0 w0 S rs M w vs hI hv => (h.2 M0 w0 S rs M w vs hI hv).mono ?_⟩
 rintro e' w' ⟨v, M', rfl, h2, h3, h4⟩
 obtain ⟨M2, j1, j2, j3⟩ := HpH.frzO (j := 0) h4 rfl hl
 exact ⟨v, M2, rfl, j3, h3.trans j1, j2.blank (j := 0) rfl⟩
theorem FunM.frzN {f : FuncId} {args : List Pr} {e : TypeId} {sz m : Nat} {rows : List (List Pr)} {R : Res} (hl : ∀ r ∈ rows, r.length = sz) (h : FunM P f args (lens m) R (fun v => mutRes e sz rows v)) : FunM P f args (slice sz rows) R (fun _ => noRes) :=
 FunM.frz hl (FunM.own_of_mut h)
theorem FunM.owe_of_mut {f : FuncId} {e : TypeId} {sz : Nat} {rows : List (List Pr)} {ps : List Pr} {res : Pr} {R : Res} (h0 : rows ≠ []) (h : FunM P f ps res R (fun v => mutRes e sz rows v)) : FunM P f ps res R (fun v => oweRes e sz rows v) := by
 refine ⟨h.1, fun M0 w0 S rs M w vs hI hv => (h.2 M0 w0 S rs M w vs hI hv).mono ?_⟩
 rintro e' w' ⟨v, M', rfl, h2, h3, h4⟩
 refine ⟨v, M', rfl, h2, h3, ?_⟩
 have hpos := List.length_pos_iff.2 h0
 obtain ⟨b, cap, spare, rfl, hnc, hcm, hsp, hcr⟩ := (h4.hold _ (List.mem_cons_self ..)).1
 cases cap with
 | zero => omega
 | succ cap => exact h4.swap1 (i := 0) rfl rfl rfl (.inr ⟨b, cap, spare, rfl, hnc, hcm, hsp, hcr⟩)
theorem FunM.owe_void {f : FuncId} {e : TypeId} {sz sz' : Nat} {ps : List Pr} (h : Fun P f ps (full sz' [])) : FunM P f ps (lens 0) noRes (fun v => oweRes e sz [] v) := by
 refine ⟨h.1, fun M0 w0 S rs M w vs hI hv => (h.2 M w vs hI.bd hv).mono ?_⟩
 rintro e' w' ⟨v, rfl, ⟨_, a, rfl⟩, h3⟩
 refine ⟨_, M, rfl, ⟨_, _, rfl⟩, Ext.below h3, ?_⟩
 have hI' : HpH M0 w0 S (noRes :: rs) M w' := (Hp M0 w0 S _).st _ _ _ h3 hI
 exact hI'.swap1 (i := 0) (r' := oweRes e sz [] (.slice a 0 0)) rfl (by cases a <;> rfl) rfl (.inl ⟨rfl, a, rfl⟩)

theorem rd_part {t e : TypeId} {x y : Operand} {k : IntKind} {l : Int} {sz j : Nat} {T : TypeId} {rows : List (List Pr)} {v : Value} (ho : o.op = .slice t x (some y) none none) (ht : P.underlying t = some (.slice e)) (hz : sizeB P e = some sz) (hx : VL E x (is v)) (hy : VL E y (is (.int k l))) (h0 : 0 ≤ l) (hl : l ≤ rows.length) :
  OpRd P M0 w0 S j (SR.c (oweRes T sz rows v)) o E (part sz v l.toNat) := by
 intro M w a rs he hI hj
 have h1 : a.eval x = v := hx.ev he (by simp [ho, Op.operands])
 have h3 : a.eval y = .int k l := hy.ev he (by simp [ho, Op.operands])
 have hj' : rs[j]? = some (oweRes T sz rows v) := hj
 rcases (hI.hold _ (List.mem_of_getElem? hj')).1 with ⟨rfl, A, hv⟩ | ⟨b, cap, spare, hv, hnc, hcm, hsp, hcr⟩
 ·
  have hl0 : l = 0 := by simp at hl; omega
  subst hl0
  have hrun : (execOp a.eval o).run P w = .ok (.value (.slice A 0 0)) w := by
   simp [execOp, ho, h1, h3, hv, Instr.sliceAt, Instr.slice, run_underlying ht, Instr.sliceBounds, Instr.sliceBound, asIntOf, run_size hz]
  rw [hrun]
  exact ⟨⟨A, 0, 0, hv, Nat.le_refl _, by simp⟩, Below.refl _ _⟩
 ·
  have hrun : (execOp a.eval o).run P w = .ok (.value (.slice (if cap + 1 = l.toNat then some ⟨b, 0, none⟩ else some ⟨b, l.toNat * sz, none⟩) (rows.length - l.toNat) (cap + 1 - l.toNat))) w := by
   by_cases hne : cap + 1 = l.toNat <;>
   simp [execOp, ho, h1, h3, hv, Instr.sliceAt, Instr.slice, run_underlying ht, Instr.sliceBounds, Instr.sliceBound, asIntOf, h0, hl, run_size hz, hne, addr_add]
  rw [hrun]
  refine ⟨⟨_, _, _, hv, by omega, ?_⟩, Below.refl _ _⟩
  simp [addr_add]
/-- A pointer into its i-th element. -/
def elp (sz : Nat) (v : Value) (i o : Nat) : Pr where
 h _ _ u := ∃ a m c, v = .slice (some a) m c ∧ u = .pointer (some (a.add (i * sz + o)))
 st _M _w _M' _w' _v _ h := h
instance one_elp (sz : Nat) (v : Value) (k o : Nat) : One (elp sz v k o) := ⟨by rintro M w u ⟨a, m, c, h1, rfl⟩; exact ⟨rfl, rfl⟩⟩
theorem rd_elp {t e : TypeId} {x y : Operand} {k : IntKind} {l : Int} {sz j : Nat} {T : TypeId} {rows : List (List Pr)} {v : Value} (ho : o.op = .indexAddr t x y) (ht : P.underlying t = some (.slice e)) (hz : sizeB P e = some sz) (hx : VL E x (is v)) (hy : VL E y (is (.int k l))) (h0 : 0 ≤ l) (hl : l < rows.length) :
  OpRd P M0 w0 S j (SR.c (oweRes T sz rows v)) o E (elp sz v l.toNat 0) := by
 intro M w a rs he hI hj
 have h1 : a.eval x = v := hx.ev he (by simp [ho, Op.operands])
 have h3 : a.eval y = .int k l := hy.ev he (by simp [ho, Op.operands])
 have hj' : rs[j]? = some (oweRes T sz rows v) := hj
 rcases (hI.hold _ (List.mem_of_getElem? hj')).1 with ⟨rfl, A, hv⟩ | ⟨b, cap, spare, hv, hnc, hcm, hsp, hcr⟩
 · simp at hl; omega
 ·
  have hrun : (execOp a.eval o).run P w = .ok (.value (.pointer (some ((⟨b, 0, none⟩ : Addr).add (l.toNat * sz))))) w := by
   simp [execOp, ho, h1, h3, hv, Instr.indexAt, asIntOf, run_underlying ht, run_size hz, h0, hl]
  rw [hrun]
  exact ⟨⟨_, _, _, hv, rfl⟩, Below.refl _ _⟩
theorem ok_elfield {I : Asn} {t : TypeId} {x : Operand} {f sz i q off : Nat} {v : Value} (ho : o.op = .fieldAddr t x f) (hf : fieldOff P t f = some off) (hx : VL E x (elp sz v i q)) : OpOK P I o E (elp sz v i (q + off)) :=
 OpOK.same fun M w a he _ => by
  obtain ⟨a0, m0, c0, hv, h1⟩ := hx.ev he (by simp [ho, Op.operands])
  exact ⟨.pointer (some ((a0.add (i * sz + q)).add off)), by simp [execOp, ho, h1, run_fieldAt hf], a0, m0, c0, hv, by rw [add_add, Nat.add_assoc]⟩
theorem rd_elload {t : TypeId} {x : Operand} {sz j i : Nat} {T : TypeId} {rows : List (List Pr)} {row : List Pr} {v : Value} (ho : o.op = .load t x) (ht : aggB P t = true) (hz : sizeB P t = some sz) (hx : VL E x (elp sz v i 0)) (hl : ∀ r ∈ rows, r.length = sz) (hi : rows[i]? = some row) :
  OpRd P M0 w0 S j (SR.c (oweRes T sz rows v)) o E (agg row) := by
 intro M w a rs he hI hj
 obtain ⟨a0, m0, c0, hv0, h1⟩ := hx.ev he (by simp [ho, Op.operands])
 rw [Nat.add_zero] at h1
 have hj' : rs[j]? = some (oweRes T sz rows v) := hj
 rcases (hI.hold _ (List.mem_of_getElem? hj')).1 with ⟨rfl, A, hv⟩ | ⟨b, cap, spare, hv, hnc, hcm, hsp, ⟨_, cs, h4, h5, h6⟩⟩
 · simp at hi
 ·
  rw [hv0] at hv
  injection hv with e1 e2 e3
  injection e1 with e1
  subst e1
  have hil := lt_of_at hi
  have hrl := hl row (List.mem_of_getElem? hi)
  have hfl := flat_len hl
  have hle : (i + 1) * sz ≤ rows.length * sz := Nat.mul_le_mul_right sz hil
  rw [Nat.add_mul] at hle
  have h7 : HL M w row ((cs.drop (i * sz)).take sz) := by
   have h8 := (h5.drop (i * sz)).take sz
   have e4 : ((rows.flatten ++ spare.map is).drop (i * sz)).take sz = row := by
    refine List.ext_getElem? fun j => ?_
    rw [List.getElem?_take]
    split
    ·
     rename_i hj
     rw [List.getElem?_drop, List.getElem?_append_left (by rw [hfl]; omega), flat_at hl hi hj]
    · rw [List.getElem?_eq_none (by omega)]
   rwa [e4] at h8
  have hl' : ((cs.drop (i * sz)).take sz).length = sz := by rw [h7.length, hrl]
  have hrun : (loadCells ((⟨b, 0, none⟩ : Addr).add (i * sz)) sz).run P w = .ok ((cs.drop (i * sz)).take sz).toArray w := by
   have := run_loadCells_list (P := P) w ((⟨b, 0, none⟩ : Addr).add (i * sz)) ((cs.drop (i * sz)).take sz) (fun k u hk => by
    rw [add_add, addr_add]
    rw [List.getElem?_take] at hk
    split at hk
    · rw [List.getElem?_drop] at hk; simp [World.cell?, h4, hk]
    · cases hk)
   rwa [hl'] at this
  have hrun2 : (execOp a.eval o).run P w = .ok (.value (.agg ((cs.drop (i * sz)).take sz).toArray)) w := by simp [execOp, ho, h1, Instr.loadAt, Instr.sureAddr, loadVar, run_isAgg_agg ht, run_size hz, hrun]
  rw [hrun2]
  exact ⟨⟨_, rfl, fun c hc => h6 c (List.mem_of_mem_drop (List.mem_of_mem_take hc)), h7⟩, Below.refl _ _⟩

theorem set_flat {sz : Nat} : ∀ {rows : List (List Pr)} {i : Nat} {row : List Pr} {o : Nat} {qs S : List Pr}, (∀ r ∈ rows, r.length = sz) → rows[i]? = some row → o + qs.length ≤ sz →
  (rows.flatten ++ S).take (i * sz + o) ++ qs ++ (rows.flatten ++ S).drop (i * sz + o + qs.length) = (rows.set i (row.take o ++ qs ++ row.drop (o + qs.length))).flatten ++ S
 | [], _, _, _, _, _, _, h, _ => by simp at h
 | a :: l, 0, row, o, qs, S, hl, h, ho => by
  simp at h; subst h
  have h1 := hl a (by simp)
  rw [List.set_cons_zero, List.flatten_cons, List.flatten_cons, Nat.zero_mul, Nat.zero_add, List.append_assoc a, List.take_append_of_le_length (by omega), List.drop_append_of_le_length (by omega)]
  simp
 | a :: l, i + 1, row, o, qs, S, hl, h, ho => by
  have h1 := hl a (by simp)
  have ih := set_flat (S := S) (fun r hr => hl r (List.mem_cons_of_mem _ hr)) (i := i) (row := row) (o := o) (qs := qs) (by simpa using h) ho
  rw [List.set_cons_succ, List.flatten_cons, List.flatten_cons, List.append_assoc a, List.append_assoc a, ← ih, List.take_append, List.drop_append, List.take_of_length_le (by rw [h1, Nat.succ_mul]; omega), List.drop_of_length_le (by rw [h1, Nat.succ_mul]; omega),
   show (i + 1) * sz + o - a.length = i * sz + o by rw [h1, Nat.succ_mul]; omega, show (i + 1) * sz + o + qs.length - a.length = i * sz + o + qs.length by rw [h1, Nat.succ_mul]; omega]
  simp
/-- A store into one of its elements. -/
theorem ef_elstore {t : TypeId} {x y : Operand} {sz j i q m : Nat} {T : TypeId} {rows rows' : List (List Pr)} {row qs : List Pr} {v : Value} (hg : o.guard = none) (ho : o.op = .store t x y) (hx : VL E x (elp sz v i q)) (hy : VL E y (cellsP qs)) (hz : sizeB P t = some m) (hm : qs.length = m)
  (hl : ∀ r ∈ rows, r.length = sz) (hi : rows[i]? = some row) (hq : q + m ≤ sz) (hps : rows.set i (row.take q ++ qs ++ row.drop (q + m)) = rows') : OpEf P M0 w0 S n j (SR.c (oweRes T sz rows v)) (SR.c (oweRes T sz rows' v)) o E any := by
 refine ⟨hg, fun M w a rs hsz he hI hj => ?_⟩
 obtain ⟨a0, m0, c0, hv0, h1⟩ := hx.ev he (show x ∈ o.op.operands.toList by simp [ho, Op.operands])
 obtain ⟨h2, h3⟩ := hy.ev he (show y ∈ o.op.operands.toList by simp [ho, Op.operands])
 have hj' : rs[j]? = some (oweRes T sz rows v) := hj
 have hjl := lt_of_at hj'
 rcases (hI.hold _ (List.mem_of_getElem? hj')).1 with ⟨rfl, A, hv⟩ | ⟨b, cap, spare, hv, hnc, hcm, hsp, hcr⟩
 · simp at hi
 ·
  subst hv
  injection hv0 with e1 e2 e3
  injection e1 with e1
  subst e1
  have hC := hI.swap1 (r' := cellsRes true b T (rows.flatten ++ spare.map is)) hj' rfl rfl hcr
  have hjC : (rs.set j (cellsRes true b T (rows.flatten ++ spare.map is)))[j]? = some (cellsRes true b T (rows.flatten ++ spare.map is)) := List.getElem?_set_self hjl
  obtain ⟨_, cs, h4, h5, h6⟩ := hcr
  have h5l := h5.length
  have h2l := h2.length
  have hil := lt_of_at hi
  have hfl := flat_len hl
  rw [List.length_append, hfl, List.length_map] at h5l
  have hle : (i + 1) * sz ≤ rows.length * sz := Nat.mul_le_mul_right sz hil
  rw [Nat.succ_mul] at hle
  have hcells : (a.eval y).cells.size = m := by rw [← hm, ← h2l]; simp
  have hrun : (storeCells ((⟨b, 0, none⟩ : Addr).add (i * sz + q)) (a.eval y).cells.toList 0).run P w = .ok () (w.setRow b (cs.take (i * sz + q) ++ (a.eval y).cells.toList ++ cs.drop (i * sz + q + m)).toArray) := by
   have := run_storeCells_at (P := P) b (i * sz + q) T (a.eval y).cells.toList 0 cs.toArray w h4 (by simp; omega) h3
   rw [addr_add, Nat.zero_add]
   simpa [hcells] using this
  have hrun2 : (execOp a.eval o).run P w = .ok .skip (w.setRow b (cs.take (i * sz + q) ++ (a.eval y).cells.toList ++ cs.drop (i * sz + q + m)).toArray) := by
   simp [execOp, ho, h1, Instr.storeAt, Instr.sureAddr, storeVar, run_size hz, hcells, hrun]
  rw [hrun2]
  have hfs := set_flat (S := spare.map is) hl hi (o := q) (qs := qs) (by omega)
  rw [hm, hps] at hfs
  obtain ⟨h7, h8⟩ := HpH.write (qs := rows'.flatten ++ spare.map is) (cs := cs.take (i * sz + q) ++ (a.eval y).cells.toList ++ cs.drop (i * sz + q + m)) hC hjC (by rw [← hfs]; exact (((h5.take (i * sz + q)).app h2)).app (h5.drop (i * sz + q + m)))
   (fun c hc => by
    simp only [List.mem_append] at hc
    rcases hc with (hc | hc) | hc
    · exact h6 c (List.mem_of_mem_take hc)
    · exact h3 c hc
    · exact h6 c (List.mem_of_mem_drop hc))
  rw [List.set_set] at h7
  refine ⟨M, trivial, h8, ?_⟩
  have hlen : rows'.length = rows.length := by rw [← hps, List.length_set]
  have h9 := h7.swap1 (r' := oweRes T sz rows' (.slice (some ⟨b, 0, none⟩) rows.length (cap + 1))) (List.getElem?_set_self hjl) rfl rfl (.inr ⟨b, cap, spare, by rw [hlen], by rw [hlen]; exact hnc, hcm, by rw [hlen]; exact hsp, (h7.hold _ (List.mem_of_getElem? (List.getElem?_set_self hjl))).1⟩)
  rw [List.set_set] at h9
  exact h9

theorem okb_sliceTwo {I : Asn} {t e : TypeId} {x y z : Operand} {k k' : IntKind} {l h : Int} {sz b m cap : Nat} (ho : o.op = .slice t x (some y) (some z) none) (ht : P.underlying t = some (.slice e)) (hz : sizeB P e = some sz) (hx : VL E x (is (.slice (some ⟨b, 0, none⟩) m cap))) (hy : VL E y (is (.int k l))) (hzv : VL E z (is (.int k' h))) (h0 : 0 ≤ l) (hlh : l < h) (hl : h ≤ cap) :
  OpOK P I o E (is (.slice (some ⟨b, l.toNat * sz, none⟩) (h.toNat - l.toNat) (cap - l.toNat))) :=
 OpOK.same fun M w a he _ => by
  have h1 : a.eval x = _ := hx.ev he (by simp [ho, Op.operands])
  have h3 : a.eval y = _ := hy.ev he (by simp [ho, Op.operands])
  have h5 : a.eval z = _ := hzv.ev he (by simp [ho, Op.operands])
  have hne : ¬ cap = l.toNat := by omega
  have h00 : 0 ≤ h := by omega
  have hle : l ≤ h := by omega
  have m1 : max h 0 = h := by omega
  have m2 : ¬ h < l := by omega
  refine ⟨_, ?_, rfl⟩
  simp [execOp, ho, h1, h3, h5, Instr.sliceAt, Instr.slice, run_underlying ht, Instr.sliceBounds, Instr.sliceBound, asIntOf, h0, h00, hle, hl, m1, m2, run_size hz, hne, addr_add]
theorem okb_sliceThree {I : Asn} {t e : TypeId} {x y z u : Operand} {k k' k2 : IntKind} {l h c : Int} {sz b m cap : Nat} (ho : o.op = .slice t x (some y) (some z) (some u)) (ht : P.underlying t = some (.slice e)) (hz : sizeB P e = some sz) (hx : VL E x (is (.slice (some ⟨b, 0, none⟩) m cap))) (hy : VL E y (is (.int k l))) (hzv : VL E z (is (.int k' h))) (hu : VL E u (is (.int k2 c))) (h0 : 0 ≤ l) (hlh : l ≤ h) (hhc : h ≤ c) (hl : c ≤ cap) :
  OpOK P I o E (lens (h.toNat - l.toNat)) :=
 OpOK.same fun M w a he _ => by
  have h1 : a.eval x = _ := hx.ev he (by simp [ho, Op.operands])
  have h3 : a.eval y = _ := hy.ev he (by simp [ho, Op.operands])
  have h5 : a.eval z = _ := hzv.ev he (by simp [ho, Op.operands])
  have h7 : a.eval u = _ := hu.ev he (by simp [ho, Op.operands])
  have h00 : 0 ≤ h := by omega
  have h01 : 0 ≤ c := by omega
  have m1 : max h 0 = h := by omega
  have m3 : max l 0 = l := by omega
  have m4 : max c 0 = c := by omega
  have m5 : ¬ h < l := by omega
  have m6 : ¬ c < h := by omega
  refine ⟨.slice (if c.toNat = l.toNat then some ⟨b, 0, none⟩ else some ⟨b, l.toNat * sz, none⟩) (h.toNat - l.toNat) (c.toNat - l.toNat), ?_, _, _, rfl⟩
  by_cases hne : c.toNat = l.toNat <;>
  simp [execOp, ho, h1, h3, h5, h7, Instr.sliceAt, Instr.slice, run_underlying ht, Instr.sliceBounds, Instr.sliceBound, asIntOf, h0, h00, h01, hlh, hhc, hl, m1, m3, m4, m5, m6, run_size hz, hne, addr_add] <;> (intro _; exfalso; omega)

theorem HpH.dropL : ∀ {l : List Res} {M : Av} {w : World}, HpH M0 w0 S (l ++ rs) M w → HpH M0 w0 S rs M w
 | [], _, _, h => h
 | _ :: l, _, _, h => HpH.dropL (l := l) h.drop1
end
section
variable {P : Program} {E : Env} {I : Asn} {o : Oper}
theorem ok_idxbyte {f : FuncId} {fn : Func} {x y : Operand} {ts : Array TypeId} {a : List UInt8} {c : UInt8} (ho : o.op = .call { callee := .value (.func f), args := #[x, y], argTypes := ts }) (hf : P.funcs[f]? = some fn) (hname : (fn.name == "runtime.NumGoroutine") = false)
  (hb : fn.body.isNone = true) (hn : Extern.findNext fn = none) (hex : Extern.find fn = some Extern.BytealgIndexByte.indexByte) (hx : VL E x (str a)) (hy : VL E y (is (.int .u8 ((c.toNat : Nat) : Int)))) : OpOK P I o E (int (Lib.indexByte a c)) :=
 OpOK.same fun M w ac he _ => by
  have h1 : ac.eval x = _ := hx.ev he (by simp [ho, Op.operands, Call.operands])
  have h2 : ac.eval y = _ := hy.ev he (by simp [ho, Op.operands, Call.operands])
  have h3 : ac.eval (.func f) = .func (.func f) #[] #[] := rfl
  refine ⟨_, ?_, rfl⟩
  have hrun : (execOp ac.eval o).run P w = (callFunc f #[ac.eval x, ac.eval y]).run P w := by simp [execOp, ho, resolve, Deferred.ofValue, invoke, h3]
  rw [hrun, h1, h2, run_callFunc_extern hf hname hb hn hex, Lib.run_indexByteString]
  simp
/-- The function called is a value that is known. -/
theorem ok_callf {f : FuncId} {cx : Operand} {xs : Array Operand} {ts : Array TypeId} {ps caps : List Pr} {res : Pr} (ho : o.op = .call { callee := .value cx, args := xs, argTypes := ts }) (hc : VL E cx (fn (.func f) caps)) (hf : Fun P f (ps ++ caps) res) (hv : Vals E xs.toList ps) : OpOK P I o E res := by
 intro M w a he hI
 have h1 := Vals.evalFor (o := o) he (xs := xs.toList) (fun x hx => by simp [ho, Op.operands, Call.operands]; exact .inr (by simpa using hx)) hv
 obtain ⟨cs, h2, h3⟩ := hc.ev he (by simp [ho, Op.operands, Call.operands])
 have hrun : (execOp a.eval o).run P w = .ok (.enter f ((xs.toList.map a.eval).toArray ++ cs.toArray)) w := by
  simp [execOp, ho, resolve, Deferred.ofValue, h2, invoke, run_callFunc hf.1, map_list xs]
 rw [hrun]
 have h4 := hf.2 M w _ (I.bd _ _ hI) (h1.app h3)
 exact ⟨Below.refl _ _, by simpa using h4⟩
section
variable {n : Nat} {M0 : Av} {w0 : World} {S : Nat → Prop}
/-- A literal whose elements are ours. -/
theorem ef_buildM {t e : TypeId} {sz d j : Nat} {zs : List Value} {xs : List Operand} {parts : Array (Nat × Operand)} {rows : List (List Pr)} (hg : o.guard = none) (hd : o.dst = some d) (hn : d < n) (ho : o.op = .buildSlice t xs.length parts) (hp : parts.toList = (xs.zipIdx 0).map fun x => (x.2, x.1))
  (ht : P.underlying t = some (.slice e)) (hz : sizeB P e = some sz) (hze : zeroB P e = some zs) (hzl : zs.length = sz) (hsz : 0 < sz) (hx : ValR E sz xs rows) (hsmall : xs.length * sz ≤ 16777216) (hpos0 : 0 < xs.length) : OpEf P M0 w0 S n j (SR.c noRes) ⟨d, mutRes e sz rows⟩ o E (lens rows.length) := by
 refine ⟨hg, fun M w a rs hszn he hI hj => ?_⟩
 have hops : ∀ x ∈ xs, x ∈ o.op.operands.toList := by
  intro x hx
  simp only [ho, Op.operands, List.mem_map]
  obtain ⟨i, hi, rfl⟩ := List.mem_iff_getElem.1 hx
  exact ⟨(i, xs[i]), by rw [hp]; exact List.mem_map.2 ⟨(xs[i], i), by rw [List.mem_zipIdx_iff_getElem?]; simp [hi], rfl⟩, rfl⟩
 obtain ⟨h1, h2, h3⟩ := hx.ev he hops
 unfold sizeB at hz
 unfold zeroB at hze
 cases hi : P.info? e with
 | none => rw [hi] at hz; cases hz
 | some i =>
  rw [hi] at hz hze
  simp only [Option.map_some, Option.some.injEq, Option.map_eq_some_iff] at hz hze
  obtain ⟨z, hzz, hze⟩ := hze
  have hzc : z.cells.size = sz := by rw [← hzl, ← hze]; simp
  have hparts : (parts.map fun (i, x) => (i, a.eval x)).toList = ((xs.map a.eval).zipIdx 0).map fun x => (x.2, x.1) := by
   rw [Array.toList_map, hp, List.map_map, List.zipIdx_map, List.map_map]
   rfl
  have hfill := fill_whole (s := i.size) (by rw [hz]; exact hsz) (xs.map a.eval) ((Array.range (xs.length * i.size)).map (z.cells[· % z.cells.size]!)) (fun v hv => by
   obtain ⟨x, hx, rfl⟩ := List.mem_map.1 hv
   rw [hz]; exact h2 x hx) (by simp)
  have hpos : ¬ xs.length * i.size = 0 := by rw [hz]; exact Nat.ne_of_gt (Nat.mul_pos (by omega) hsz)
  have hrun := run_buildSlice (P := P) w t e xs.length (parts.map fun (i, x) => (i, a.eval x)) _ i z ht hi hzz (by rw [hz]; omega) hpos (by rw [hparts]; exact hfill)
  have hrun2 : (execOp a.eval o).run P w = .ok (.value (.slice (some ⟨w.heap.size, 0, none⟩) xs.length xs.length)) (w.alloc (.cells ((xs.map a.eval).flatMap fun v => v.cells.toList).toArray e)) := by simp [execOp, ho, hrun]
  rw [hrun2]
  generalize hcs : (xs.map a.eval).flatMap (fun v => v.cells.toList) = cs at h3 ⊢
  have hb : Below w.heap.size w (w.alloc (.cells cs.toArray e)) := (Below.refl _ _).alloc (Nat.le_refl _) _
  have hlen : rows.length ≤ maxLen := by
   have : xs.length * 1 ≤ xs.length * sz := Nat.mul_le_mul_left _ hsz
   unfold maxLen; omega
  have h4 := Ext.below (M := M) hb
  have hext : Ext M w (fun b o => M b o ∨ b = w.heap.size) (w.alloc (.cells cs.toArray e)) := by
   refine ⟨h4.size, fun a v hc hm => ⟨fun hx => ?_, (h4.keep a v hc hm).2⟩, fun b o ho hp hm => ⟨fun hx => ?_, (h4.obj b o ho hp hm).2⟩⟩
   ·
    rcases hx with hx | hx
    · exact hm hx
    · have := cell_lt hc; omega
   ·
    rcases hx with hx | hx
    · exact hm hx
    · subst hx; simp at ho
  have hs1 : (w.alloc (.cells cs.toArray e)).heap.size = w.heap.size + 1 := by simp
  have hat : (SR.at_ (a.put o.dst (.slice (some ⟨w.heap.size, 0, none⟩) xs.length xs.length)) ⟨d, mutRes e sz rows⟩) = mutRes e sz rows (.slice (some ⟨w.heap.size, 0, none⟩) xs.length xs.length) := by unfold SR.at_ Slot.val; dsimp only; rw [hd, put_same (by rw [hszn]; exact hn)]
  refine ⟨fun b o => M b o ∨ b = w.heap.size, ⟨_, _, by rw [h1]⟩, hext, ?_⟩
  rw [hat]
  refine hI.replace hj hext hb.os hb.tape hb.output (fun k hk _ => hb.block k hk) rfl (fun b o hm _ => .inl hm) (fun b o hx => ?_) ?_ rfl (fun b hbk => ?_)
  ·
   rcases hx with hx | hx
   · have := hI.bd _ _ hx; omega
   · omega
  ·
   refine ⟨w.heap.size, rows.length, [], by rw [h1], Nat.le_refl _, hlen, by simp, fun o => .inr rfl, cs, heap_alloc_new w _, ?_, h3.2.1⟩
   simpa using (h3.st hext).hl hsz
  ·
   have hbk' : some w.heap.size = some b := hbk
   injection hbk' with e1
   subst e1
   exact ⟨by rw [hs1]; omega, .inr (Nat.le_refl _)⟩
end
theorem one_any (p : Pr) [One p] : Pr.le p (cellsP [any]) := fun M w v h => by
 obtain ⟨h1, h2⟩ := one_cellsP p M w v h
 refine ⟨?_, h2⟩
 match v.cells.toList, h1 with
 | [_], _ => exact ⟨trivial, trivial⟩
theorem put_any {ps : List Pr} {off : Nat} (h : ps[off]? = some any) : ps.take off ++ [any] ++ ps.drop (off + 1) = ps := by
 have hl := lt_of_at h
 rw [List.getElem?_eq_getElem hl] at h
 simp only [Option.some.injEq] at h
 conv => rhs; rw [← List.take_append_drop off ps, List.drop_eq_getElem_cons hl, h]
 simp
end
/-- All numbers below n. -/
def allI (p : Nat → Bool) (n : Nat) : Bool := (List.range n).all p
theorem allI_iff {p : Nat → Bool} {n : Nat} : allI p n = true ↔ ∀ j, j < n → p j = true := by unfold allI; simp
theorem allI_end {p : Nat → Bool} {n : Nat} (h : ∀ j, j < n → p j = true) : allI p n = true := allI_iff.2 h
theorem allI_hit {p : Nat → Bool} {n k : Nat} (hk : k < n) (h : p k = false) : allI p n = false := by
 rw [Bool.eq_false_iff]; intro h'; rw [allI_iff.1 h' k hk] at h; cases h
theorem allI_step {p : Nat → Bool} {k : Nat} (h : ∀ j, j < k → p j = true) (hk : p k = true) : ∀ j, j < k + 1 → p j = true := by
 intro j hj
 by_cases e : j = k
 · subst e; exact hk
 · exact h j (by omega)
section
variable {P : Program} {n : Nat} {I : Asn}
def TurnR (P : Program) (I' : Asn) (M : Av) (w : World) (p : Pr) : Result Next → Prop
 | .ok (.value v) w' => ∃ M', p.h M' w' v ∧ Ext M w M' w' ∧ I'.h M' w'
 | .ok .skip w' => ∃ M', p.h M' w' undef ∧ Ext M w M' w' ∧ I'.h M' w'
 | .ok (.enter f args) w' => Calls P f args w' fun e w'' => ∃ v M', e = .returned v ∧ p.h M' w'' v ∧ Ext M w M' w'' ∧ I'.h M' w''
 | _ => False
def OpTurn (P : Program) (n : Nat) (I I' : Asn) (o : Oper) (E : Env) (p : Pr) : Prop := o.guard = none ∧ ∀ M w (a : Act), a.tmps.size = n → EnvFor M w E o a → I.h M w → TurnR P I' M w p ((execOp a.eval o).run P w)
theorem step_turn {M : Av} {w : World} {o : Oper} {p : Pr} {a : Act} {K : Act → World → Prop} {Q : Exit → Act → World → Prop} {I' : Asn} (h : TurnR P I' M w p ((execOp a.eval o).run P w))
  (k : ∀ v w' M', p.h M' w' v → Ext M w M' w' → I'.h M' w' → K (a.put o.dst v) w') : o.wp P a w K Q := by
 unfold Oper.wp
 generalize (execOp a.eval o).run P w = r at h
 cases r with
 | halt x w' => exact h.elim
 | ok x w' =>
  cases x <;> first | exact h.elim | skip
  case value v => obtain ⟨M', h1, h2, h3⟩ := h; exact k _ _ _ h1 h2 h3
  case skip => obtain ⟨M', h1, h2, h3⟩ := h; exact k _ _ _ h1 h2 h3
  case enter f args =>
   refine h.mono ?_
   rintro e w'' ⟨v, M', rfl, h1, h2, h3⟩
   exact k _ _ _ h1 h2 h3
def ChOne (P : Program) (n : Nat) (I : Asn) (ops : Array Oper) : Nat → List Oper → Env → (Asn → Env → Prop) → Prop
 | _, [], _, _ => False
 | 0, o :: r, E, K => ∃ p I', OpTurn P n I I' o E p ∧ (∀ d, o.dst = some d → d < n) ∧ Ch P n I' ops r (upd o p E) (K I')
 | c + 1, o :: r, E, K => ∃ p, GOK P I ops o E p ∧ (∀ d, o.dst = some d → d < n) ∧ ChOne P n I ops c r (upd o p E) K
theorem ChOne.op {ops : Array Oper} {o : Oper} {r : List Oper} {E : Env} {K : Asn → Env → Prop} {d c : Nat} {p : Pr} (hg : o.guard = none) (hd : o.dst = some d) (hn : d < n) (h : OpOK P I o E p)
  (k : ChOne P n I ops c r ((d, p) :: E) K) : ChOne P n I ops (c + 1) (o :: r) E K :=
 ⟨p, by unfold GOK; rw [hg]; exact h, fun d' hd' => by rw [hd] at hd'; cases hd'; exact hn, by unfold upd; rw [hd]; exact k⟩
theorem ChOne.turn {ops : Array Oper} {o : Oper} {r : List Oper} {E : Env} {K : Asn → Env → Prop} {d : Nat} {p : Pr} (I' : Asn) (hd : o.dst = some d) (hn : d < n) (h : OpTurn P n I I' o E p)
  (k : Ch P n I' ops r ((d, p) :: E) (K I')) : ChOne P n I ops 0 (o :: r) E K :=
 ⟨p, I', h, fun d' hd' => by rw [hd] at hd'; cases hd'; exact hn, by unfold upd; rw [hd]; exact k⟩
def drawOne (l : List Oper) (c : Nat) : Bool :=
 let b := befs l
 drawOk l && decide (c < l.length) && (List.range l.length).all fun i => i == c || (decide (i < c) && (b.getD c 0).testBit i) || (decide (c < i) && (b.getD i 0).testBit c)
theorem drawOne_spec {l : List Oper} {c : Nat} (h : drawOne l c = true) : drawOk l = true ∧ c < l.length ∧ (∀ i, i < c → ((befs l).getD c 0).testBit i = true) ∧ ∀ i, c < i → i < l.length → ((befs l).getD i 0).testBit c = true := by
 unfold drawOne at h
 simp only [Bool.and_eq_true, decide_eq_true_eq] at h
 obtain ⟨⟨h1, h2⟩, h3⟩ := h
 rw [List.all_eq_true] at h3
 refine ⟨h1, h2, fun i hi => ?_, fun i hi hl => ?_⟩
 ·
  have := h3 i (by simp; omega)
  simp at this
  rcases this with (h | h) | h
  · omega
  · exact h.2
  · omega
 ·
  have := h3 i (by simp; omega)
  simp at this
  rcases this with (h | h) | h
  · omega
  · omega
  · exact h.2
theorem cur_stop : ∀ (L : List (Oper × Pr)) (m : Nat) (E : Env) (b : Nat), b ≤ m → cur (fun i => decide (i < b)) m L E = E := by
 intro L
 induction L with
 | nil => intros; rfl
 | cons x L ih => intro m E b hm; obtain ⟨o, p⟩ := x; unfold cur; rw [if_neg (by simp; omega)]; exact ih _ _ _ (by omega)
theorem cho_list {ops : Array Oper} {K : Asn → Env → Prop} : ∀ (c : Nat) (l : List Oper) (k : Nat) (E : Env), ChOne P n I ops c l E K → ∃ (L : List (Oper × Pr)) (I' : Asn), L.map (·.1) = l ∧
  (∀ j o p, L[j]? = some (o, p) → (j ≠ c → GOK P (if j < c then I else I') ops o (cur (fun i => decide (i < k + j)) k L E) p) ∧ (j = c → OpTurn P n I I' o (cur (fun i => decide (i < k + j)) k L E) p) ∧ ∀ d, o.dst = some d → d < n) ∧ K I' (cur (fun _ => true) k L E)
 | _, [], _, _, h => by unfold ChOne at h; exact h.elim
 | 0, o :: l, k, E, h => by
  obtain ⟨p, I', hg, hd, hr⟩ := h
  obtain ⟨L, h1, h2, h3⟩ := ch_list l (k + 1) _ hr
  refine ⟨(o, p) :: L, I', by simp [h1], fun j o' p' hj => ?_, by unfold cur; simpa using h3⟩
  cases j with
  | zero =>
   simp only [List.getElem?_cons_zero, Option.some.injEq, Prod.mk.injEq] at hj
   obtain ⟨rfl, rfl⟩ := hj
   have e0 : decide (k < k + 0) = false := by simp
   refine ⟨fun h => absurd rfl h, fun _ => ?_, hd⟩
   unfold cur
   simp only [e0, Bool.false_eq_true, ↓reduceIte]
   rw [cur_stop L (k + 1) E (k + 0) (by omega)]
   exact hg
  | succ j =>
   have := h2 j o' p' (by simpa using hj)
   have e1 : decide (k < k + 1 + j) = true := by simp; omega
   rw [show k + (j + 1) = k + 1 + j by omega]
   unfold cur
   simp only [e1, ↓reduceIte]
   exact ⟨fun _ => by rw [if_neg (by omega : ¬ j + 1 < 0)]; exact this.1, fun h => absurd h (by omega), this.2⟩
 | c + 1, o :: l, k, E, h => by
  obtain ⟨p, hg, hd, hr⟩ := h
  obtain ⟨L, I', h1, h2, h3⟩ := cho_list c l (k + 1) _ hr
  refine ⟨(o, p) :: L, I', by simp [h1], fun j o' p' hj => ?_, by unfold cur; simpa using h3⟩
  cases j with
  | zero =>
   simp only [List.getElem?_cons_zero, Option.some.injEq, Prod.mk.injEq] at hj
   obtain ⟨rfl, rfl⟩ := hj
   have e0 : decide (k < k + 0) = false := by simp
   refine ⟨fun _ => ?_, fun h => absurd h (by omega), hd⟩
   unfold cur
   rw [if_pos (by omega : 0 < c + 1)]
   simp only [e0, Bool.false_eq_true, ↓reduceIte]
   rw [cur_stop L (k + 1) E (k + 0) (by omega)]
   exact hg
  | succ j =>
   have := h2 j o' p' (by simpa using hj)
   have e1 : decide (k < k + 1 + j) = true := by simp; omega
   rw [show k + (j + 1) = k + 1 + j by omega]
   unfold cur
   simp only [e1, ↓reduceIte]
   refine ⟨fun hne => ?_, fun he => this.2.1 (by omega), this.2.2⟩
   have h4 := this.1 (by omega)
   by_cases hlt : j < c
   · rw [if_pos (by omega : j + 1 < c + 1)]; rwa [if_pos hlt] at h4
   · rw [if_neg (by omega : ¬ j + 1 < c + 1)]; rwa [if_neg hlt] at h4
structure DJ1 (n : Nat) (I I' : Asn) (c : Nat) (L : List (Oper × Pr)) (E : Env) (listed : Array Bool) (a : Act) (w : World) : Prop where
 size : listed.size = L.length
 down : ∀ (i k : Nat) o p, L[i]? = some (o, p) → listed.getD i false = true → edge o k = true → listed.getD k false = true
 st : ∃ M, a.tmps.size = n ∧ a.defers = [] ∧ EnvOK M w (cur (fun i => listed.getD i false) 0 L E) a ∧ (if listed.getD c false then I' else I).h M w
theorem Tr.regOne (hm : P.follows .mixedOrders = true) (c : Nat) {id : Nat} {l : List Oper} {E : Env} {Q : Exit → Act → World → Prop} (hB0 : drawOne l c = true)
  (h : ChOne P n I l.toArray c l E (fun I' E' => ∀ a w, St n E' I' a w → Q .normal a w)) : Tr P n E I (.region id l.toArray true) Q := by
 intro a w hs
 obtain ⟨L, I', h1, h2, h3⟩ := cho_list c l 0 E h
 obtain ⟨hB, hcl, hA, hBc⟩ := drawOne_spec hB0
 have hlen : L.length = l.length := by rw [← h1]; simp
 have hL : ∀ (i : Nat) o, l.toArray[i]? = some o → ∃ p, L[i]? = some (o, p) := by
  intro i o ho
  have : l[i]? = some o := by simpa using ho
  rw [← h1, List.getElem?_map] at this
  cases hx : L[i]? with
  | none => rw [hx] at this; simp at this
  | some x => rw [hx] at this; simp at this; exact ⟨x.2, by rw [← this]⟩
 have hL' : ∀ (i : Nat) o p, L[i]? = some (o, p) → l[i]? = some o := by
  intro i o p hi
  rw [← h1, List.getElem?_map, hi]; rfl
 -- what the check says
 have hB1 : ∀ (i : Nat) o, l[i]? = some o → (∀ e ∈ o.after, Region.binds .any e = true → e.on < i) ∧
   ∀ (k : Nat) q s, l[k]? = some q → k ≠ i → q.dst = some s → o.dst ≠ some s ∧ (s ∈ seen l.toArray o → (k < i ∧ edge o k = true) ∨ (i < k ∧ edge q i = true)) := by
  intro i o ho
  unfold drawOk at hB
  rw [List.all_eq_true] at hB
  have hb := hB (o, i) (by rw [List.mem_zipIdx_iff_getElem?]; exact ho)
  simp only [Bool.and_eq_true] at hb
  refine ⟨fun e he hbd => ?_, fun k q s hk hne hd => ?_⟩
  ·
   have := Array.all_eq_true_iff_forall_mem.1 hb.1 e he
   rw [hbd] at this; simpa using this
  ·
   have := List.all_eq_true.1 hb.2 (q, k) (by rw [List.mem_zipIdx_iff_getElem?]; exact hk)
   simp only [hd, Bool.or_eq_true, Bool.and_eq_true] at this
   rcases this with h | h
   · exact absurd (by simpa using h) hne
   ·
    refine ⟨by simpa using h.1, fun hs => ?_⟩
    rcases h.2 with (h' | h') | h'
    ·
     have hc : (seen l.toArray o).contains s = true := by simpa using hs
     rw [hc] at h'; cases h'
    · exact .inl ⟨by simpa using h'.1, h'.2⟩
    · exact .inr ⟨by simpa using h'.1, h'.2⟩
 refine wp_region_any hm ?_
 -- the induction
 have key : ∀ (fuel : Nat) (listed : Array Bool) (a : Act) (w : World), listed.toList.count false ≤ fuel → DJ1 n I I' c L E listed a w → wpAny P .any l.toArray Q fuel listed a w := by
  intro fuel
  -- all are listed where nothing is ready
  have fin : ∀ (listed : Array Bool) (a : Act) (w : World), DJ1 n I I' c L E listed a w → (∀ i, i < L.length → listed.getD i false = true) → Q .normal a w := by
   intro listed a w hJ hall
   obtain ⟨M, hn, hdf, he, hI⟩ := hJ.st
   rw [hall c (by rw [hlen]; exact hcl)] at hI
   refine h3 a w ⟨M, hn, hdf, ?_, hI⟩
   have : cur (fun i => listed.getD i false) 0 L E = cur (fun _ => true) 0 L E := by
    have : ∀ (L' : List (Oper × Pr)) (k : Nat) (E : Env), k + L'.length ≤ L.length → cur (fun i => listed.getD i false) k L' E = cur (fun _ => true) k L' E := by
     intro L'
     induction L' with
     | nil => intros; rfl
     | cons x L' ih =>
      intro k E hk
      obtain ⟨o, p⟩ := x
      simp only [List.length_cons] at hk
      unfold cur
      rw [hall k (by omega), ih _ _ (by omega)]
    exact this L 0 E (by omega)
   rwa [this] at he
  have ready_nil : ∀ (listed : Array Bool) (a : Act) (w : World), DJ1 n I I' c L E listed a w → Region.ready .any l.toArray listed = [] → ∀ i, i < L.length → listed.getD i false = true := by
   intro listed a w hJ hr i
   induction i using Nat.strongRecOn with
   | _ i ih =>
    intro hi
    cases hli : listed.getD i false with
    | true => rfl
    | false =>
     exfalso
     have hil : i < l.length := by omega
     have hmem : i ∈ Region.ready .any l.toArray listed := by
      refine mem_ready.2 ⟨?_, l[i], by simp [hil], fun e he hb => ?_⟩
      ·
       have : i < listed.size := by rw [hJ.size]; exact hi
       rw [Array.getD_eq_getD_getElem?, Array.getElem?_eq_getElem this] at hli ⊢
       simpa using hli
      ·
       have := (hB1 i l[i] (by simp [hil])).1 e he hb
       exact ih e.on this (by omega)
     rw [hr] at hmem
     cases hmem
  induction fuel with
  | zero =>
   intro listed a w hc hJ
   have hall : ∀ i, i < L.length → listed.getD i false = true := by
    intro i hi
    have hsz := hJ.size
    have h0 : false ∉ listed.toList := by
     have : listed.toList.count false = 0 := by omega
     exact List.count_eq_zero.1 this
    cases hli : listed.getD i false with
    | true => rfl
    | false =>
     exfalso
     have : i < listed.size := by omega
     rw [Array.getD_eq_getD_getElem?, Array.getElem?_eq_getElem this] at hli
     apply h0
     simp at hli
     rw [← hli]
     exact Array.getElem_mem_toList this
   refine ⟨?_, fin listed a w hJ hall⟩
   cases hr : Region.ready .any l.toArray listed with
   | nil => rfl
   | cons i r =>
    exfalso
    have hi : i ∈ Region.ready .any l.toArray listed := by rw [hr]; simp
    obtain ⟨hu, o, ho, _⟩ := mem_ready.1 hi
    obtain ⟨p, hp⟩ := hL i o ho
    have hil : i < L.length := by rcases Nat.lt_or_ge i L.length with h | h; exact h; rw [List.getElem?_eq_none h] at hp; cases hp
    have h5 := hall i hil
    have : i < listed.size := by rw [hJ.size]; exact hil
    rw [Array.getD_eq_getD_getElem?, Array.getElem?_eq_getElem this] at hu h5
    simp at hu h5
    rw [hu] at h5; cases h5
  | succ fuel ih =>
   intro listed a w hc hJ
   refine ⟨fun hr => fin listed a w hJ (ready_nil listed a w hJ hr), fun i hi => ?_⟩
   obtain ⟨hu, o, ho, hall⟩ := mem_ready.1 hi
   obtain ⟨p, hp⟩ := hL i o ho
   have ho' : l[i]? = some o := hL' i o p hp
   have hil : i < L.length := by rcases Nat.lt_or_ge i L.length with h | h; exact h; rw [List.getElem?_eq_none h] at hp; cases hp
   have his : i < listed.size := by rw [hJ.size]; exact hil
   have hu0 : listed.getD i false = false := by
    rw [Array.getD_eq_getD_getElem?, Array.getElem?_eq_getElem his] at hu ⊢; simpa using hu
   have hpre : ∀ k, edge o k = true → listed.getD k false = true := by
    intro k hk
    obtain ⟨e, he, hb, rfl⟩ := edge_spec.1 hk
    exact hall e he hb
   obtain ⟨hgp, hgt, hdn⟩ := h2 i o p hp
   rw [Nat.zero_add] at hgp hgt
   obtain ⟨M, hn, hdf, he, hI⟩ := hJ.st
   -- what is looked at reads as in the text's order
   have hsame : ∀ s, s ∈ seen l.toArray o → (cur (fun j => decide (j < i)) 0 L E).lookup s = (cur (fun j => listed.getD j false) 0 L E).lookup s := by
    intro s hs
    by_cases hw : ∃ k q r, L[k]? = some (q, r) ∧ k ≠ i ∧ q.dst = some s
    ·
     obtain ⟨k, q, r, hk, hki, hd⟩ := hw
     have huniq : ∀ (j : Nat) o' p', L[j]? = some (o', p') → j ≠ k → o'.dst ≠ some s := by
      intro j o' p' hj hjk
      exact ((hB1 j o' (hL' j o' p' hj)).2 k q s (hL' k q r hk) (Ne.symm hjk) hd).1
     rcases ((hB1 i o ho').2 k q s (hL' k q r hk) hki hd).2 hs with ⟨h5, h6⟩ | ⟨h5, h6⟩
     · rw [cur_hit L 0 E k q r hk (by simpa using h5) hd huniq, cur_hit L 0 E k q r hk (by simpa using hpre k h6) hd huniq]
     ·
      have hnk : listed.getD k false = false := by
       cases hlk : listed.getD k false with
       | false => rfl
       | true => have := hJ.down k i q r hk hlk h6; rw [hu0] at this; cases this
      rw [cur_miss L 0 E, cur_miss L 0 E]
      ·
       intro j o' p' hj hsel hd'
       by_cases hjk : j = k
       · subst hjk; rw [Nat.zero_add, hnk] at hsel; cases hsel
       · exact huniq j o' p' hj hjk hd'
      ·
       intro j o' p' hj hsel hd'
       by_cases hjk : j = k
       · subst hjk; simp at hsel; omega
       · exact huniq j o' p' hj hjk hd'
    ·
     rw [cur_miss L 0 E, cur_miss L 0 E]
     ·
      intro j o' p' hj hsel hd'
      by_cases hji : j = i
      · subst hji; rw [Nat.zero_add, hu0] at hsel; cases hsel
      · exact hw ⟨j, o', p', hj, hji, hd'⟩
     ·
      intro j o' p' hj hsel hd'
      by_cases hji : j = i
      · subst hji; simp at hsel
      · exact hw ⟨j, o', p', hj, hji, hd'⟩
   have next : ∀ v w' M', p.h M' w' v → Ext M w M' w' → (if (listed.setIfInBounds i true).getD c false then I' else I).h M' w' → wpAny P .any l.toArray Q fuel (listed.setIfInBounds i true) (a.put o.dst v) w' := by
    intro v w' M' hpv hb hI2
    refine ih _ _ _ ?_ ⟨by simpa using hJ.size, ?_, M', by rw [put_size]; exact hn, by rw [put_defers]; exact hdf, ?_, hI2⟩
    ·
     have h7 : listed.toList[i]? = some false := by
      rw [Array.getElem?_toList, Array.getElem?_eq_getElem his]
      rw [Array.getD_eq_getD_getElem?, Array.getElem?_eq_getElem his] at hu0
      simpa using hu0
     have h8 := count_set h7
     rw [Array.toList_setIfInBounds]
     omega
    ·
     intro j k o' p' hj hlj hek
     have hset : ∀ m, (listed.setIfInBounds i true).getD m false = (if m = i then true else listed.getD m false) := by
      intro m
      rw [Array.getD_eq_getD_getElem?, Array.getElem?_setIfInBounds]
      by_cases hm : i = m
      · subst hm; simp [his]
      · rw [if_neg hm, if_neg (Ne.symm hm), Array.getD_eq_getD_getElem?]
     rw [hset] at hlj ⊢
     by_cases hki : k = i
     · simp [hki]
     ·
      rw [if_neg hki]
      by_cases hji : j = i
      ·
       subst hji
       rw [hp] at hj
       cases hj
       exact hpre k hek
      ·
       rw [if_neg hji] at hlj
       exact hJ.down j k o' p' hj hlj hek
    ·
     -- the environment
     intro s q hq
     have hset : ∀ m, (listed.setIfInBounds i true).getD m false = (if m = i then true else listed.getD m false) := by
      intro m
      rw [Array.getD_eq_getD_getElem?, Array.getElem?_setIfInBounds]
      by_cases hm : i = m
      · subst hm; simp [his]
      · rw [if_neg hm, if_neg (Ne.symm hm), Array.getD_eq_getD_getElem?]
     by_cases hds : o.dst = some s
     ·
      rw [cur_hit L 0 E i o p hp (by rw [Nat.zero_add, hset]; simp) hds
       (fun j o' p' hj hji => ((hB1 j o' (hL' j o' p' hj)).2 i o s ho' (Ne.symm hji) hds).1)] at hq
      cases hq
      rw [hds, put_same (by rw [hn]; exact hdn s hds)]
      exact hpv
     ·
      have hq2 : (cur (fun j => listed.getD j false) 0 L E).lookup s = some q := by
       rw [← hq]
       by_cases hw : ∃ k q r, L[k]? = some (q, r) ∧ q.dst = some s ∧ listed.getD k false = true
       ·
        obtain ⟨k, q', r, hk, hd, hlk⟩ := hw
        have huniq : ∀ (j : Nat) o' p', L[j]? = some (o', p') → j ≠ k → o'.dst ≠ some s := by
         intro j o' p' hj hjk
         exact ((hB1 j o' (hL' j o' p' hj)).2 k q' s (hL' k q' r hk) (Ne.symm hjk) hd).1
        rw [cur_hit L 0 E k q' r hk (by simpa using hlk) hd huniq, cur_hit L 0 E k q' r hk (by rw [Nat.zero_add, hset]; split; rfl; exact hlk) hd huniq]
       ·
        rw [cur_miss L 0 E, cur_miss L 0 E]
        ·
         intro j o' p' hj hsel hd'
         rw [Nat.zero_add, hset] at hsel
         by_cases hji : j = i
         · subst hji; rw [hp] at hj; cases hj; exact hds hd'
         · rw [if_neg hji] at hsel; exact hw ⟨j, o', p', hj, hd', hsel⟩
        ·
         intro j o' p' hj hsel hd'
         rw [Nat.zero_add] at hsel
         exact hw ⟨j, o', p', hj, hd', hsel⟩
      have hv := he s q hq2
      have : (a.put o.dst v).tmps.getD s undef = a.tmps.getD s undef := by
       cases hd : o.dst with
       | none => rfl
       | some d => exact put_other (fun e => hds (by rw [hd, e]))
      rw [this]
      exact q.st _ _ _ _ _ hb hv
   have hsetc : (listed.setIfInBounds i true).getD c false = (if c = i then true else listed.getD c false) := by
    rw [Array.getD_eq_getD_getElem?, Array.getElem?_setIfInBounds]
    by_cases hm : i = c
    · subst hm; simp [his]
    · rw [if_neg hm, if_neg (Ne.symm hm), Array.getD_eq_getD_getElem?]
   have hdown : ∀ (j : Nat) o', l[j]? = some o' → listed.getD j false = true → ∀ e ∈ o'.after, Region.binds .any e = true → listed.getD e.on false = true := by
    intro j o' hj hlj e he' hb
    obtain ⟨p', hp'⟩ := hL j o' (by simpa using hj)
    exact hJ.down j e.on o' p' hp' hlj (edge_spec.2 ⟨e, he', hb, rfl⟩)
   have henv : EnvFor M w (cur (fun j => decide (j < i)) 0 L E) o a := fun s q hs hq => by
    rw [hsame s (by unfold seen; simp [hs])] at hq
    exact he s q hq
   unfold wpOp
   rw [ho]
   by_cases hic : i = c
   ·
    obtain ⟨hg0, hg⟩ := hgt hic
    dsimp only
    rw [if_pos (wanted_none hg0)]
    have hlc : listed.getD c false = false := by rw [← hic]; exact hu0
    rw [hlc] at hI
    refine .inl (step_turn (hg M w a hn henv hI) fun v w' M' hv hx hI2 => next v w' M' hv hx ?_)
    rw [hsetc, if_pos hic.symm]; exact hI2
   ·
    have hgpi := hgp hic
    have hlc : listed.getD c false = decide (c < i) := by
     by_cases hlt : i < c
     ·
      rw [decide_eq_false (by omega)]
      cases hlc : listed.getD c false with
      | false => rfl
      | true =>
       exfalso
       obtain ⟨oc, hoc⟩ : ∃ oc, l[c]? = some oc := ⟨l[c]'hcl, List.getElem?_eq_getElem hcl⟩
       have := befs_spec (fun j => listed.getD j false = true) l hdown c oc hoc (fun e he' hb => hdown c oc hoc hlc e he' hb) i (hA i hlt)
       rw [hu0] at this; cases this
     ·
      rw [decide_eq_true (by omega)]
      exact befs_spec (fun j => listed.getD j false = true) l hdown i o ho' (fun e he' hb => hall e (by simpa using he') hb) c (hBc i (by omega) (by omega))
    rw [hlc] at hI
    have hI3 : (if i < c then I else I').h M w := by
     by_cases hlt : i < c
     · rw [decide_eq_false (by omega)] at hI; rw [if_pos hlt]; exact hI
     · rw [decide_eq_true (by omega)] at hI; rw [if_neg hlt]; exact hI
    refine gok_step hgpi henv (fun j want d q hgd hj hq => ?_) hI3 ?_
    ·
     have hds : d ∈ seen l.toArray o := by unfold seen; rw [hgd]; exact List.mem_append.2 (.inr (by show d ∈ ((l.toArray[j]?).bind (·.dst)).toList; rw [hj]; simp))
     rw [hsame d hds] at hq
     exact he d q hq
    ·
     intro v w' hpv hb
     refine next v w' M hpv (Ext.below hb) ?_
     rw [hsetc, if_neg (Ne.symm hic), hlc]
     exact Asn.st _ _ _ _ hb hI
 refine key l.length _ a _ ?_ ⟨by simp [hlen], ?_, ?_⟩
 · simp [List.count_replicate]
 ·
  intro i k o p hp hl
  exfalso
  rw [Array.getD_eq_getD_getElem?, Array.getElem?_replicate] at hl
  split at hl <;> simp at hl
 ·
  obtain ⟨M, hn, hdf, he, hI⟩ := hs
  have hb : Below w.heap.size w { w with drawn := w.drawn + 1 } := ⟨rfl, rfl, rfl, Nat.le_refl _, fun _ _ => rfl⟩
  refine ⟨M, hn, hdf, ?_, ?_⟩
  rotate_left
  ·
   have : (Array.replicate l.toArray.size false).getD c false = false := by rw [Array.getD_eq_getD_getElem?, Array.getElem?_replicate]; split <;> rfl
   rw [this]; exact I.st _ _ _ hb hI
  intro s q hq
  rw [cur_miss L 0 E] at hq
  · exact q.st _ _ _ _ _ (Ext.below hb) (he s q hq)
  ·
   intro j o p hj hsel
   exfalso
   rw [Array.getD_eq_getD_getElem?, Array.getElem?_replicate] at hsel
   split at hsel <;> simp at hsel

def FunD (P : Program) (f : FuncId) (args : List Pr) (pre : List Res) (res : Pr) (post : List Res) : Prop := FunL (α := Unit) P f args pre (fun _ => True) (fun _ => res) (fun _ => post)
section
variable {M0 : Av} {w0 : World} {S : Nat → Prop} {rs : List Res} {E : Env} {o : Oper} {g : Func} {M1 : Av} {w1 : World}
theorem FunD.of {f : FuncId} {c : Code} {ps : List Pr} {pre post : List Res} {res : Pr} (hf : P.funcs[f]? = some g) (hb : g.body = some c) (hname : (g.name == "runtime.NumGoroutine") = false) (hlen : ps.length ≤ g.ntmps)
  (h : ∀ M0 w0 S rs M1 w1, Tr P g.ntmps (penv 0 ps) (Hp M0 w0 S (pre ++ extRes M1 w1 :: rs)) c (bodyPost P g (BackL M0 w0 S rs M1 w1 (fun _ : Unit => True) (fun _ => res) (fun _ => post)))) : FunD P f ps pre res post :=
 FunL.of hf hb hname hlen h
theorem turn_call {f : FuncId} {xs : Array Operand} {ts : Array TypeId} {ps : List Pr} {pre post : List Res} {res : Pr} (rest : List Res) (hg : o.guard = none) (ho : o.op = .call { callee := .value (.func f), args := xs, argTypes := ts }) (hf : FunD P f ps pre res post)
  (hv : Vals E xs.toList ps) (hp : rs.Perm (pre ++ rest)) : OpTurn P n (Hp M0 w0 S rs) (Hp M0 w0 S (post ++ rest)) o E res := by
 refine ⟨hg, fun M w a hsz he hI => ?_⟩
 have hI : HpH M0 w0 S rs M w := hI
 have h1 := Vals.evalFor (o := o) he (xs := xs.toList) (fun x hx => by simp [ho, Op.operands, Call.operands]; exact .inr (by simpa using hx)) hv
 have hrun : (execOp a.eval o).run P w = .ok (.enter f (xs.toList.map a.eval).toArray) w := by
  simp [execOp, ho, resolve, Deferred.ofValue, Act.eval, invoke, run_callFunc hf.1, map_list xs]
 rw [hrun]
 refine (HpH.callL hf hp hI h1).mono ?_
 rintro e w' ⟨v, M', x, rfl, hC, h2, h3, h4⟩
 exact ⟨v, M', rfl, h2, h3, h4⟩
theorem turn_callv {f : FuncId} {cx : Operand} {xs : Array Operand} {ts : Array TypeId} {ps : List Pr} {pre post : List Res} {res : Pr} (rest : List Res) (hg : o.guard = none) (ho : o.op = .call { callee := .value cx, args := xs, argTypes := ts }) (hc : VL E cx (fn (.func f) [])) (hf : FunD P f ps pre res post)
  (hv : Vals E xs.toList ps) (hp : rs.Perm (pre ++ rest)) : OpTurn P n (Hp M0 w0 S rs) (Hp M0 w0 S (post ++ rest)) o E res := by
 refine ⟨hg, fun M w a hsz he hI => ?_⟩
 have hI : HpH M0 w0 S rs M w := hI
 have h1 := Vals.evalFor (o := o) he (xs := xs.toList) (fun x hx => by simp [ho, Op.operands, Call.operands]; exact .inr (by simpa using hx)) hv
 have hcv := hc.ev he (by simp [ho, Op.operands, Call.operands])
 have hrun : (execOp a.eval o).run P w = .ok (.enter f (xs.toList.map a.eval).toArray) w := by
  obtain ⟨cs, h2, hcs⟩ := hcv
  cases cs with
  | nil => simp [execOp, ho, resolve, Deferred.ofValue, h2, invoke, run_callFunc hf.1, map_list xs]
  | cons c cs => exact hcs.elim
 rw [hrun]
 refine (HpH.callL hf hp hI h1).mono ?_
 rintro e w' ⟨v, M', x, rfl, hC, h2, h3, h4⟩
 exact ⟨v, M', rfl, h2, h3, h4⟩
theorem TO.callD {Q : Exit → Act → World → Prop} {ops : Array Oper} {r : List Oper} {f : FuncId} {xs : Array Operand} {ts : Array TypeId} {ps : List Pr} {pre post : List Res} {res : Pr} {d : Nat} (rest : List Res) (hg : o.guard = none) (hd : o.dst = some d) (hn : d < n) (ho : o.op = .call { callee := .value (.func f), args := xs, argTypes := ts }) (hf : FunD P f ps pre res post)
  (hv : Vals E xs.toList ps) (hp : rs.Perm (pre ++ rest)) (k : TO P n ops r ((d, res) :: E) (Hp M0 w0 S (post ++ rest)) Q) : TO P n ops (o :: r) E (Hp M0 w0 S rs) Q :=
 TO.callL rest hg hd hn ho hf hv hp fun _ _ => k
theorem Fin.retD {rv : ResultVar} {q res : Pr} {post rs' : List Res} (hr : g.results = #[rv]) (h : RVal P E rs' rv q) (hl : Pr.le q res) (hp : rs'.Perm (post ++ extRes M1 w1 :: rs)) :
  Fin n E (Hp M0 w0 S rs') (bodyPost P g (BackL M0 w0 S rs M1 w1 (fun _ : Unit => True) (fun _ => res) (fun _ => post))) .ret :=
 Fin.retL1 () hr h trivial hl hp
/-- One that makes something of its own alone is plain. -/
theorem FunM.pure {f : FuncId} {args : List Pr} {res : Pr} {R' : Value → Res} (h : FunM P f args res noRes R') : Fun P f args res := by
 refine ⟨h.1, fun M w vs hb hv => ?_⟩
 refine (h.2 M w noS [] M w vs ((HpH.begin hb).add0 (r := noRes) rfl trivial) hv).mono ?_
 rintro e w' ⟨v, M', rfl, h2, h3, h4⟩
 exact ⟨v, rfl, res.st _ _ _ _ _ (Ext.less h4.m) h2, h4.below⟩
theorem rd_lenW {t e T : TypeId} {x : Operand} {sz j : Nat} {rows : List (List Pr)} {v : Value} (ho : o.op = .call { callee := .builtin .len, args := #[x], argTypes := #[t] }) (ht : P.underlying t = some (.slice e)) (hx : VL E x (is v)) :
  OpRd P M0 w0 S j (SR.c (oweRes T sz rows v)) o E (int ((rows.length : Nat) : Int)) := by
 intro M w a rs he hI hj
 have h1 : a.eval x = v := hx.ev he (by simp [ho, Op.operands, Call.operands])
 have hj' : rs[j]? = some (oweRes T sz rows v) := hj
 have hrun : ∃ A c, v = .slice A rows.length c := by
  rcases (hI.hold _ (List.mem_of_getElem? hj')).1 with ⟨rfl, A, hv⟩ | ⟨b, cap, spare, hv, _⟩
  · exact ⟨_, _, hv⟩
  · exact ⟨_, _, hv⟩
 obtain ⟨A, c, hv⟩ := hrun
 have : (execOp a.eval o).run P w = .ok (.value (.int .i64 ((rows.length : Nat) : Int))) w := by
  simp [execOp, ho, resolve, invoke, builtin, Builtin.len_, h1, hv, run_underlying ht, goInt]
 rw [this]
 exact ⟨rfl, Below.refl _ _⟩
end
end
section
variable {P : Program} {n : Nat} {E : Env} {M0 : Av} {w0 : World} {S : Nat → Prop} {rs : List Res} {o : Oper}
/-- The last m elements of a block, from the place off on. -/
def tailP (b off m : Nat) : Pr where
 h _ _ u := ∃ o c, u = .slice (some ⟨b, o, none⟩) m c ∧ (0 < m → o = off)
 st _M _w _M' _w' _v _ h := h
instance one_tailP (b off m : Nat) : One (tailP b off m) := ⟨by rintro M w u ⟨o, c, rfl, _⟩; exact ⟨rfl, rfl⟩⟩
theorem okb_sliceTail {I : Asn} {t e : TypeId} {x y : Operand} {k : IntKind} {l : Int} {sz b m cap : Nat} (ho : o.op = .slice t x (some y) none none) (ht : P.underlying t = some (.slice e)) (hz : sizeB P e = some sz) (hx : VL E x (is (.slice (some ⟨b, 0, none⟩) m cap))) (hy : VL E y (is (.int k l))) (h0 : 0 ≤ l) (hl : l ≤ m) (hc : m ≤ cap) :
  OpOK P I o E (tailP b (l.toNat * sz) (m - l.toNat)) :=
 OpOK.same fun M w a he _ => by
  have h1 : a.eval x = _ := hx.ev he (by simp [ho, Op.operands])
  have h3 : a.eval y = _ := hy.ev he (by simp [ho, Op.operands])
  by_cases hne : cap = l.toNat
  ·
   refine ⟨.slice (some ⟨b, 0, none⟩) (m - l.toNat) (cap - l.toNat), ?_, 0, _, rfl, fun h => by omega⟩
   simp [execOp, ho, h1, h3, Instr.sliceAt, Instr.slice, run_underlying ht, Instr.sliceBounds, Instr.sliceBound, asIntOf, h0, hl, run_size hz, hne]
  ·
   refine ⟨.slice (some ⟨b, l.toNat * sz, none⟩) (m - l.toNat) (cap - l.toNat), ?_, _, _, rfl, fun _ => rfl⟩
   simp [execOp, ho, h1, h3, Instr.sliceAt, Instr.slice, run_underlying ht, Instr.sliceBounds, Instr.sliceBound, asIntOf, h0, hl, run_size hz, hne, addr_add]
/-- append of a later part onto a part of the same block. -/
theorem ef_appTail {t e : TypeId} {x y : Operand} {sz d b k m cap off : Nat} {j : Nat} {new : Bool} {ps ps' : List Pr} (hg : o.guard = none) (hd : o.dst = some d) (hn : d < n) (ho : o.op = .call { callee := .builtin .append, args := #[x, y], argTypes := #[t, t] })
  (ht : P.underlying t = some (.slice e)) (hz : sizeB P e = some sz) (hx : VL E x (is (.slice (some ⟨b, 0, none⟩) k cap))) (hy : VL E y (tailP b off m)) (hroom : k + m ≤ cap) (hl : off + m * sz ≤ ps.length) (hl2 : k * sz + m * sz ≤ ps.length)
  (hps : ps.take (k * sz) ++ (ps.drop off).take (m * sz) ++ ps.drop (k * sz + m * sz) = ps') : OpEf P M0 w0 S n j (SR.c (cellsRes new b e ps)) (SR.c (cellsRes new b e ps')) o E (is (.slice (some ⟨b, 0, none⟩) (k + m) cap)) := by
 refine ⟨hg, fun M w a rs hszn he hI hj => ?_⟩
 have h1 : a.eval x = _ := hx.ev he (by simp [ho, Op.operands, Call.operands])
 obtain ⟨o2, c2, h2, ho2⟩ := hy.ev he (by simp [ho, Op.operands, Call.operands])
 obtain ⟨⟨_, cs, h4, h5, h6⟩, _⟩ := hI.hold _ (List.mem_of_getElem? hj)
 have h5l := h5.length
 have hnl : ((cs.drop off).take (m * sz)).length = m * sz := by rw [List.length_take, List.length_drop]; omega
 unfold sizeB at hz
 cases hi : P.info? e with
 | none => rw [hi] at hz; cases hz
 | some i =>
  rw [hi] at hz
  simp only [Option.map_some, Option.some.injEq] at hz
  have hrun := run_append_room (P := P) (w := w) t o.type e i ht hi b k cap cs.toArray h4 ⟨b, o2, none⟩ m c2 ((cs.drop off).take (m * sz)) (by rw [hz]; exact hnl) (fun q u hk => by
   rw [addr_add]
   rw [List.getElem?_take] at hk
   split at hk
   ·
    rename_i hq
    have hm : 0 < m := by rcases Nat.eq_zero_or_pos m with h | h; subst h; simp at hq; exact h
    have := ho2 hm
    subst this
    rw [List.getElem?_drop] at hk; simp [World.cell?, h4, hk]
   · cases hk) (fun u hu => h6 u (List.mem_of_mem_drop (List.mem_of_mem_take hu))) hroom (by rw [hz, hnl]; simp; omega)
  rw [hz, hnl] at hrun
  obtain ⟨h7, h8⟩ := HpH.write (qs := ps') (cs := cs.take (k * sz) ++ (cs.drop off).take (m * sz) ++ cs.drop (k * sz + m * sz)) hI hj (by rw [← hps]; exact ((h5.take _).app ((h5.drop off).take _)).app (h5.drop _))
   (fun c hc => by
    simp only [List.mem_append] at hc
    rcases hc with (hc | hc) | hc
    · exact h6 c (List.mem_of_mem_take hc)
    · exact h6 c (List.mem_of_mem_drop (List.mem_of_mem_take hc))
    · exact h6 c (List.mem_of_mem_drop hc))
  have hrun2 : (execOp a.eval o).run P w = .ok (.value (.slice (some ⟨b, 0, none⟩) (k + m) cap)) (w.setRow b (cs.take (k * sz) ++ (cs.drop off).take (m * sz) ++ cs.drop (k * sz + m * sz)).toArray) := by
   simp [execOp, ho, resolve, invoke, builtin, h1, h2, hrun]
  rw [hrun2]
  exact ⟨M, rfl, h8, h7⟩
theorem ok_appEE {I : Asn} {t e : TypeId} {x y : Operand} {sz sz1 sz2 : Nat} (ho : o.op = .call { callee := .builtin .append, args := #[x, y], argTypes := #[t, t] }) (ht : P.underlying t = some (.slice e)) (hz : sizeB P e = some sz) (hx : VL E x (full sz1 [])) (hy : VL E y (slice sz2 [])) : OpOK P I o E (full sz []) :=
 OpOK.same fun M w a he _ => by
  obtain ⟨_, A, h1⟩ := hx.ev he (by simp [ho, Op.operands, Call.operands])
  obtain ⟨A', c', h2, _⟩ := hy.ev he (by simp [ho, Op.operands, Call.operands])
  simp only [List.length_nil] at h1 h2
  refine ⟨.slice A 0 0, ?_, void_full sz A M w⟩
  have hrun := run_append_zero (P := P) (ty := o.type) (A := A) (A' := A') (n := 0) (c := 0) (c' := c') ht hz (Nat.le_refl _) w
  simp [execOp, ho, resolve, invoke, builtin, h1, h2, hrun]
end
theorem rep1 {K : Nat} {r : List Pr} (h : K = 1) : (List.replicate K r).flatten = r := by subst h; simp
section
variable {P : Program} {n : Nat} {E : Env} {M0 : Av} {w0 : World} {S : Nat → Prop} {rs : List Res} {o : Oper}
theorem turn_ef {p : Pr} (j : Nat) {R R' : Res} (hR : rs[j]? = some R) (h : OpEf P M0 w0 S n j (SR.c R) (SR.c R') o E p) : OpTurn P n (Hp M0 w0 S rs) (Hp M0 w0 S (rs.set j R')) o E p := by
 refine ⟨h.1, fun M w a hsz he hI => ?_⟩
 have := h.2 M w a rs hsz he hI hR
 generalize (execOp a.eval o).run P w = r at this
 cases r with
 | halt x w' => exact this.elim
 | ok x w' =>
  cases x <;> first | exact this.elim | exact this
end
theorem flat_takeN {β : Type} {f : β → List Pr} {sz : Nat} (hf : ∀ x, (f x).length = sz) : ∀ (l : List β) (i : Nat), ((l.map f).flatten).take (i * sz) = ((l.take i).map f).flatten
 | [], i => by simp
 | a :: l, 0 => by simp
 | a :: l, i + 1 => by
  rw [List.map_cons, List.flatten_cons, List.take_succ_cons, List.map_cons, List.flatten_cons, ← flat_takeN hf l i, List.take_append, hf a, List.take_of_length_le (by rw [hf a, Nat.succ_mul]; omega), Nat.succ_mul, Nat.add_sub_cancel]
theorem flat_dropN {β : Type} {f : β → List Pr} {sz : Nat} (hf : ∀ x, (f x).length = sz) : ∀ (l : List β) (i : Nat), ((l.map f).flatten).drop (i * sz) = ((l.drop i).map f).flatten
 | [], i => by simp
 | a :: l, 0 => by simp
 | a :: l, i + 1 => by
  rw [List.map_cons, List.flatten_cons, List.drop_succ_cons, ← flat_dropN hf l i, List.drop_append, hf a, List.drop_of_length_le (by rw [hf a, Nat.succ_mul]; omega), Nat.succ_mul, Nat.add_sub_cancel]; rfl
theorem flat_insN {β : Type} {f : β → List Pr} {sz : Nat} (hf : ∀ x, (f x).length = sz) {l : List β} {i : Nat} {x : β} : ((l.map f).flatten).take (i * sz) ++ f x ++ ((l.map f).flatten).drop (i * sz) = ((l.take i ++ [x] ++ l.drop i).map f).flatten := by
 rw [flat_takeN hf, flat_dropN hf, List.map_append, List.map_append, List.flatten_append, List.flatten_append, List.map_singleton]; simp
theorem flat_delN {β : Type} {f : β → List Pr} {sz : Nat} (hf : ∀ x, (f x).length = sz) {l : List β} {i : Nat} : ((l.map f).flatten).take (i * sz) ++ ((l.map f).flatten).drop ((i + 1) * sz) = ((l.eraseIdx i).map f).flatten := by
 rw [flat_takeN hf, flat_dropN hf, List.eraseIdx_eq_take_drop_succ, List.map_append, List.flatten_append]
theorem ins_placeZ {A S X B : List Pr} {a z N o1 o2 o3 o4 o5 o6 : Nat} (hA : A.length = N) (ha : a + z ≤ N) (hX : X.length = z) (hS : z ≤ S.length) (h1 : o1 = a + z) (h2 : o2 = a) (h3 : o3 = N - a) (h4 : o4 = a + z + (N - a)) (h5 : o5 = a) (h6 : o6 = a + z) (hB : B = (A.take a ++ X ++ A.drop a) ++ S.drop z) :
  ((A ++ S).take o1 ++ ((A ++ S).drop o2).take o3 ++ (A ++ S).drop o4).take o5 ++ X ++ ((A ++ S).take o1 ++ ((A ++ S).drop o2).take o3 ++ (A ++ S).drop o4).drop o6 = B := by
 rw [h1, h2, h3, h4, h5, h6, hB]
 have e1 : (A ++ S).take (a + z) = A.take a ++ (A.drop a).take z := by rw [List.take_append_of_le_length (by omega), List.take_add]
 have e2 : ((A ++ S).drop a).take (N - a) = A.drop a := by
  rw [List.drop_append_of_le_length (by omega), List.take_append_of_le_length (by rw [List.length_drop]; omega), List.take_of_length_le (by rw [List.length_drop]; omega)]
 have e3 : (A ++ S).drop (a + z + (N - a)) = S.drop z := by
  rw [show a + z + (N - a) = A.length + z by omega, List.drop_append]; simp
 have l1 : (A.take a).length = a := by rw [List.length_take]; omega
 have l2 : ((A.drop a).take z).length = z := by rw [List.length_take, List.length_drop]; omega
 rw [e1, e2, e3]
 have t1 : (A.take a ++ (A.drop a).take z ++ A.drop a ++ S.drop z).take a = A.take a := by
  rw [List.append_assoc, List.append_assoc]; exact List.take_left' l1
 have t2 : (A.take a ++ (A.drop a).take z ++ A.drop a ++ S.drop z).drop (a + z) = A.drop a ++ S.drop z := by
  rw [List.append_assoc]; exact List.drop_left' (by rw [List.length_append]; omega)
 rw [t1, t2]
 simp
theorem ins_grownZ {A S Z X B R : List Pr} {a z N o0 o1 o2 o3 o4 : Nat} (hA : A.length = N) (ha : a ≤ N) (hX : X.length = z) (hZ : N + z - a ≤ Z.length) (h0 : o0 = a) (h1 : o1 = a) (h2 : o2 = a + z) (h3 : o3 = a + z) (h4 : o4 = a + z + (N - a)) (hR : R = A.drop a) (hB : B = (A.take a ++ X ++ A.drop a) ++ Z.drop (N + z - a)) :
  (((A ++ S).take o0 ++ Z).take o1 ++ X ++ ((A ++ S).take o0 ++ Z).drop o2).take o3 ++ R ++ (((A ++ S).take o0 ++ Z).take o1 ++ X ++ ((A ++ S).take o0 ++ Z).drop o2).drop o4 = B := by
 rw [h0, h1, h2, h3, h4, hR, hB]
 have l1 : (A.take a).length = a := by rw [List.length_take]; omega
 have e0 : (A ++ S).take a = A.take a := List.take_append_of_le_length (by omega)
 rw [e0]
 have e1 : (A.take a ++ Z).take a = A.take a := by rw [List.take_append_of_le_length (by omega), List.take_of_length_le (by omega)]
 have e2 : (A.take a ++ Z).drop (a + z) = Z.drop z := by rw [List.drop_append, List.drop_of_length_le (by omega), List.nil_append, l1]; congr 1; omega
 rw [e1, e2]
 have l2 : (A.take a ++ X).length = a + z := by rw [List.length_append]; omega
 have e3 : (A.take a ++ X ++ Z.drop z).take (a + z) = A.take a ++ X := by rw [List.take_append_of_le_length (by omega), List.take_of_length_le (by omega)]
 have e4 : (A.take a ++ X ++ Z.drop z).drop (a + z + (N - a)) = Z.drop (N + z - a) := by
  rw [List.drop_append, List.drop_of_length_le (by omega), List.nil_append, l2, List.drop_drop]; congr 1; omega
 rw [e3, e4]
theorem del_place {A S Z B : List Pr} {a z N o1 o2 o3 o4 o5 o6 : Nat} (hA : A.length = N) (ha : a + z ≤ N) (h1 : o1 = a) (h2 : o2 = a + z) (h3 : o3 = N - (a + z)) (h4 : o4 = N - z) (h5 : o5 = N - z) (h6 : o6 = N) (hB : B = (A.take a ++ A.drop (a + z)) ++ (Z ++ S)) :
  ((A ++ S).take o1 ++ ((A ++ S).drop o2).take o3 ++ (A ++ S).drop o4).take o5 ++ Z ++ ((A ++ S).take o1 ++ ((A ++ S).drop o2).take o3 ++ (A ++ S).drop o4).drop o6 = B := by
 rw [h1, h2, h3, h4, h5, h6, hB]
 have e1 : (A ++ S).take a = A.take a := by rw [List.take_append_of_le_length (by omega)]
 have e2 : ((A ++ S).drop (a + z)).take (N - (a + z)) = A.drop (a + z) := by
  rw [List.drop_append_of_le_length (by omega), List.take_append_of_le_length (by rw [List.length_drop]; omega), List.take_of_length_le (by rw [List.length_drop]; omega)]
 rw [e1, e2]
 have l1 : (A.take a ++ A.drop (a + z)).length = N - z := by rw [List.length_append, List.length_take, List.length_drop]; omega
 have t1 : (A.take a ++ A.drop (a + z) ++ (A ++ S).drop (N - z)).take (N - z) = A.take a ++ A.drop (a + z) := List.take_left' l1
 have t2 : (A.take a ++ A.drop (a + z) ++ (A ++ S).drop (N - z)).drop N = S := by
  rw [List.drop_append, List.drop_of_length_le (by omega), List.nil_append, l1, List.drop_drop, show N - z + (N - (N - z)) = A.length by omega, List.drop_left]
 rw [t1, t2]
 simp
section
variable {P : Program} {n : Nat} {E : Env} {M0 : Av} {w0 : World} {S : Nat → Prop} {rs : List Res}
/-- A slice of ours that a cell of ours holds is turned no more. -/
theorem St.frzWC {i j k sz b : Nat} {new : Bool} {T e : TypeId} {ps : List Pr} {rows : List (List Pr)} {v : Value} {p : Pr} (hi : rs[i]? = some (cellsRes new b T ps)) (hj : rs[j]? = some (oweRes e sz rows v)) (hij : j ≠ i) (hk : ps[k]? = some p) (hp : Pr.le p (is v)) (hl : ∀ r ∈ rows, r.length = sz) {a : Act} {w : World} (h : St n E (Hp M0 w0 S rs) a w) :
  St n E (Hp M0 w0 S ((rs.set j noRes).set i (cellsRes new b T (ps.set k (slice sz rows))))) a w := by
 obtain ⟨M, h1, h2, h3, h4⟩ := h
 have h4 : HpH M0 w0 S rs M w := h4
 have hi' : (rs.set j (oweRes e sz rows v))[i]? = some (cellsRes new b T ps) := by rw [List.getElem?_set_ne hij]; exact hi
 obtain ⟨M', g1, g2, g3⟩ := h4.frzW hj hl
 have gi : (rs.set j noRes)[i]? = some (cellsRes new b T ps) := by rw [List.getElem?_set_ne hij]; exact hi
 refine ⟨M', h1, h2, fun s q hq => q.st _ _ _ _ _ g1 (h3 s q hq), g2.swap1 gi rfl rfl ?_⟩
 obtain ⟨c1, cs, c2, c3, c4⟩ := (g2.hold _ (List.mem_of_getElem? gi)).1
 exact ⟨c1, cs, c2, c3.set hk (fun u hu => by rw [show u = v from hp _ _ _ hu]; exact g3), c4⟩
theorem Tr.frzWC {Q : Exit → Act → World → Prop} {c : Code} (i j k : Nat) {sz b : Nat} {new : Bool} {T e : TypeId} {ps : List Pr} {rows : List (List Pr)} {v : Value} {p : Pr} (hi : rs[i]? = some (cellsRes new b T ps)) (hj : rs[j]? = some (oweRes e sz rows v)) (hij : j ≠ i) (hk : ps[k]? = some p) (hp : Pr.le p (is v)) (hl : ∀ r ∈ rows, r.length = sz)
  (kk : Tr P n E (Hp M0 w0 S ((rs.set j noRes).set i (cellsRes new b T (ps.set k (slice sz rows))))) c Q) : Tr P n E (Hp M0 w0 S rs) c Q := Tr.conv (fun _ _ hs => hs.frzWC hi hj hij hk hp hl) kk
end
theorem row_set {β : Type} {f : β → List Pr} {l : List β} {k q m : Nat} {x : β} {qs : List Pr} (h : l[k]? = some x) (hq : (f x).take q ++ qs ++ (f x).drop (q + m) = f x) : (l.map f).set k ((f x).take q ++ qs ++ (f x).drop (q + m)) = l.map f := by
 rw [hq]
 refine List.ext_getElem? fun i => ?_
 rw [List.getElem?_set]
 by_cases hi : k = i
 ·
  subst hi
  rw [if_pos rfl, List.getElem?_map, h]
  have := lt_of_at h
  rw [if_pos (by rw [List.length_map]; exact this)]; rfl
 · rw [if_neg hi]
theorem row_setI {β : Type} {f : β → List Pr} {l : List β} {k q m : Nat} {x : β} {qs : List Pr} (h : l[k]? = some x) (hq : (f x).take q ++ qs ++ (f x).drop (q + m) = f x) : (l.map f).set ((k : Nat) : Int).toNat ((f x).take q ++ qs ++ (f x).drop (q + m)) = l.map f := by
 rw [Int.toNat_natCast]; exact row_set h hq
section
variable {P : Program} {n : Nat} {E : Env} {M0 : Av} {w0 : World} {S : Nat → Prop} {rs : List Res} {o : Oper} {g : Func} {M1 : Av} {w1 : World}
/-- One that only reads what is held. -/
theorem FunD.gen {f : FuncId} {args args' : List Pr} {pre : List Res} {res : Pr} [Free res] (hfz : ∀ M0 w0 S rs M w, HpH M0 w0 S (pre ++ rs) M w → ∃ M', Ext M w M' w ∧ HpH M0 w0 S rs M' w ∧ ∀ vs, HL M w args vs → HL M' w args' vs)
  (h : Fun P f args' res) : FunD P f args pre res pre := by
 refine ⟨h.1, fun M0 w0 S rs M w vs hI hv => ?_⟩
 obtain ⟨M', hx, hI', ha⟩ := hfz M0 w0 S rs M w hI
 refine (h.2 M' w vs hI'.bd (ha vs hv)).mono ?_
 rintro e' w' ⟨u, rfl, h2, h3⟩
 exact ⟨u, M, (), rfl, trivial, Free.free _ _ _ _ h2, Ext.below h3, (Hp M0 w0 S _).st _ _ _ h3 hI⟩
theorem Row.hd {M : Av} {w : World} {ad : Addr} {p q : Pr} {ps : List Pr} (h : Row M w ad 0 (p :: ps)) (hq : ∀ u, p.h M w u → q.h M w u) : Row M w ad 0 (q :: ps) := by
 intro j r hr
 cases j with
 | zero =>
  simp at hr; subst hr
  obtain ⟨u, h1, h2, h3, h4⟩ := h 0 p rfl
  exact ⟨u, h1, h2, h3, hq u h4⟩
 | succ j => exact h (j + 1) r (by simpa using hr)
/-- A pointer to what points to what holds a list: all are looked at. -/
theorem FunD.look {f : FuncId} {wb ob : Nat} {WT OT e : TypeId} {wps ops rows ps : List Pr} {rws : List (List Pr)} {sz k : Nat} {v : Value} {res : Pr} [Free res] (hk : ops[k]? = some (is v)) (hl : ∀ r ∈ rws, r.length = sz) (ho : ops.set k (slice sz rws) = rows)
  (h : Fun P f (ref (ref rows :: wps) :: ps) res) : FunD P f (ptr wb 0 :: ps) [cellsRes true wb WT (ptr ob 0 :: wps), cellsRes true ob OT ops, oweRes e sz rws v] res [cellsRes true wb WT (ptr ob 0 :: wps), cellsRes true ob OT ops, oweRes e sz rws v] := by
 refine FunD.gen (fun M0 w0 S rs M w hI => ?_) h
 obtain ⟨Ma, a1, a2⟩ := HpH.frzWC (i := 1) (j := 2) (k := k) hI rfl rfl (by decide) hk hl
 rw [ho] at a2
 have a3 : HpH M0 w0 S (cellsRes true ob OT rows :: cellsRes true wb WT (ptr ob 0 :: wps) :: noRes :: rs) Ma w := HpH.perm (List.Perm.swap _ _ _) a2
 obtain ⟨Mb, b1, b2, b3⟩ := HpH.freeze1 a3
 obtain ⟨Mc, c1, c2, c3⟩ := HpH.freeze1 b1
 refine ⟨Mc, (a1.trans b2).trans c2, c1.drop1, fun vs hv => ?_⟩
 match vs, hv with
 | u0 :: vs1, hv1 =>
  obtain ⟨hu0, hv2⟩ := hv1
  refine ⟨⟨⟨wb, 0, none⟩, hu0, c3.hd fun u hu => ⟨⟨ob, 0, none⟩, hu, b3.st c2⟩⟩, hv2.st ((a1.trans b2).trans c2)⟩
/-- A part of a list, and a function value that looks at memory of ours. -/
theorem FunD.lookPart {f fg : FuncId} {wb : Nat} {WT e : TypeId} {wps : List Pr} {rws : List (List Pr)} {sz k : Nat} {v : Value} {res : Pr} [Free res] (hl : ∀ r ∈ rws, r.length = sz)
  (h : Fun P f [slice sz (rws.drop k), fn (.func fg) [ref [ref wps]]] res) : FunD P f [part sz v k, fn (.func fg) [ref [ptr wb 0]]] [cellsRes true wb WT wps, oweRes e sz rws v] res [cellsRes true wb WT wps, oweRes e sz rws v] := by
 refine FunD.gen (fun M0 w0 S rs M w hI => ?_) h
 obtain ⟨Ma, a1, a2, a3⟩ := HpH.frzW (j := 1) hI rfl hl
 obtain ⟨Mb, b1, b2, b3⟩ := HpH.freeze1 (rs := noRes :: rs) a2
 refine ⟨Mb, a1.trans b2, b1.drop1, fun vs hv => ?_⟩
 match vs, hv with
 | [u0, u1], hv1 =>
  obtain ⟨hu0, hu1, _⟩ := hv1
  refine ⟨part_slice ((slice sz rws).st _ _ _ _ _ b2 a3) ((part sz v k).st _ _ _ _ _ (a1.trans b2) hu0), ?_, trivial⟩
  obtain ⟨cs, rfl, hcs⟩ := hu1
  match cs, hcs with
  | [c0], hc1 =>
   obtain ⟨ad, rfl, hrow⟩ := hc1.1
   exact ⟨_, rfl, ⟨ad, rfl, (hrow.st (a1.trans b2)).hd fun u hu => ⟨⟨wb, 0, none⟩, hu, b3⟩⟩, trivial⟩
theorem ok_index1 {I : Asn} {t e : TypeId} {x y : Operand} {k : IntKind} {i : Int} {len : Nat} {ps : List Pr} {p : Pr} (ho : o.op = .index t x y) (ht : P.underlying t = some (.array len e)) (he : oneB P e = true) (hz : sizeB P e = some 1) (hx : VL E x (agg ps)) (hy : VL E y (is (.int k i))) (h0 : 0 ≤ i) (hl : i < len)
  (hp : ps[i.toNat]? = some p) : OpOK P I o E p :=
 OpOK.same fun M w ac hev _ => by
  obtain ⟨cs, h1, ho1, h2⟩ := hx.ev hev (by simp [ho, Op.operands])
  have h3 : ac.eval y = _ := hy.ev hev (by simp [ho, Op.operands])
  obtain ⟨u, hu, hpu⟩ := h2.at_ i.toNat p hp
  refine ⟨u, ?_, hpu⟩
  simp [execOp, ho, h1, h3, Instr.index, asIntOf, run_underlying ht, h0, hl, run_size hz, Go.part, run_isAgg_one he, hu]
/-- A store beside what hangs on a slot. -/
theorem ef_storeW {t : TypeId} {x y : Operand} {q0 : Tmp} {j : Nat} {new : Bool} {b off m : Nat} {T : TypeId} {ps : Value → List Pr} {qs : List Pr} (hg : o.guard = none) (hd : o.dst = none) (ho : o.op = .store t x y) (hx : VL E x (ptr b off)) (hy : VL E y (cellsP qs))
  (hz : sizeB P t = some m) (hm : qs.length = m) (hl : ∀ v, off + m ≤ (ps v).length) : OpEf P M0 w0 S n j ⟨.one q0, fun v => cellsRes new b T (ps v)⟩ ⟨.one q0, fun v => cellsRes new b T ((ps v).take off ++ qs ++ (ps v).drop (off + m))⟩ o E any := by
 refine ⟨hg, fun M w a rs hsz he hI hj => ?_⟩
 have hj' : rs[j]? = some (SR.at_ a (SR.c (cellsRes new b T (ps (a.tmps.getD q0 undef))))) := hj
 obtain ⟨h1, h2⟩ := ef_store (P := P) (M0 := M0) (w0 := w0) (S := S) (n := n) (j := j) (new := new) (T := T) (ps := ps (a.tmps.getD q0 undef)) (b := b) (off := off) hg ho hx hy hz hm (hl _) rfl
 have h3 := h2 M w a rs hsz he hI hj'
 revert h3
 generalize (execOp a.eval o).run P w = r
 have key : ∀ v, SR.at_ (a.put o.dst v) (SR.c (cellsRes new b T ((ps (a.tmps.getD q0 undef)).take off ++ qs ++ (ps (a.tmps.getD q0 undef)).drop (off + m)))) = SR.at_ (a.put o.dst v) ⟨.one q0, fun v => cellsRes new b T ((ps v).take off ++ qs ++ (ps v).drop (off + m))⟩ := fun v => by rw [hd]; rfl
 intro h3
 cases r with
 | halt x w' => exact h3
 | ok x w' =>
  cases x
  case value v => obtain ⟨M', g1, g2, g3⟩ := h3; exact ⟨M', g1, g2, by rw [← key]; exact g3⟩
  case skip => obtain ⟨M', g1, g2, g3⟩ := h3; exact ⟨M', g1, g2, by rw [← key]; exact g3⟩
  case enter f args =>
   refine Calls.mono h3 ?_
   rintro e w'' ⟨v, M', g0, g1, g2, g3⟩
   exact ⟨v, M', g0, g1, g2, by rw [← key]; exact g3⟩
  all_goals exact h3
theorem TO.re {Q : Exit → Act → World → Prop} {ops : Array Oper} {l : List Oper} {I : Asn} (s : Nat) {q : Pr} (p : Pr) (hs : E.lookup s = some q) (hl : Pr.le q p) (k : TO P n ops l ((s, p) :: E) I Q) : TO P n ops l E I Q := by
 intro m hm a w hst
 refine k m hm a w ?_
 obtain ⟨M, h1, h2, he, h4⟩ := hst
 refine ⟨M, h1, h2, fun s' r hr => ?_, h4⟩
 simp only [List.lookup] at hr
 split at hr
 ·
  rename_i e1
  have : s' = s := by simpa using e1
  subst this
  simp only [Option.some.injEq] at hr
  subst hr
  exact hl _ _ _ (he _ _ hs)
 · exact he _ _ hr
theorem Fin.swap01 {Q : Exit → Act → World → Prop} {x : Exit} {r r' : Res} (k : Fin n E (Hp M0 w0 S (r' :: r :: rs)) Q x) : Fin n E (Hp M0 w0 S (r :: r' :: rs)) Q x :=
 Fin.conv (fun _ _ ⟨M, h1, h2, h3, h4⟩ => ⟨M, h1, h2, h3, HpH.perm (List.Perm.swap _ _ _) h4⟩) k
/-- A function that makes a thing of ours, and what it hands back. -/
def FunV (P : Program) (f : FuncId) (args : List Pr) (res : Value → Pr) (post : Value → List Res) : Prop := FunL (α := Value) P f args [] (fun _ => True) res post
theorem FunV.of {f : FuncId} {c : Code} {ps : List Pr} {res : Value → Pr} {post : Value → List Res} (hf : P.funcs[f]? = some g) (hb : g.body = some c) (hname : (g.name == "runtime.NumGoroutine") = false) (hlen : ps.length ≤ g.ntmps)
  (h : ∀ M0 w0 S rs M1 w1, Tr P g.ntmps (penv 0 ps) (Hp M0 w0 S (extRes M1 w1 :: rs)) c (bodyPost P g (BackL M0 w0 S rs M1 w1 (fun _ : Value => True) res post))) : FunV P f ps res post :=
 FunL.of hf hb hname hlen h
theorem Fin.retV {rv : ResultVar} {q : Pr} {res : Value → Pr} {post : Value → List Res} {rs' : List Res} (v : Value) (dr : List Res) (hr : g.results = #[rv]) (h : RVal P E rs' rv q) (hl : Pr.le q (res v)) (hp : rs'.Perm (dr ++ (post v ++ extRes M1 w1 :: rs))) :
  Fin n E (Hp M0 w0 S rs') (bodyPost P g (BackL M0 w0 S rs M1 w1 (fun _ : Value => True) res post)) .ret := by
 rintro a w ⟨M, _, hd, he, hi⟩
 have hi : HpH M0 w0 S rs' M w := hi
 obtain ⟨u, hu, hp'⟩ := h M w a he (fun q hq => (hi.hold q hq).1)
 obtain ⟨h1, h2⟩ := outL (HpH.dropL (HpH.perm hp hi))
 exact ⟨hd, u, results1 hr hu, _, M, v, rfl, trivial, hl _ _ _ hp', h1, h2⟩
theorem TO.callV {Q : Exit → Act → World → Prop} {ops : Array Oper} {r : List Oper} {f : FuncId} {xs : Array Operand} {ts : Array TypeId} {ps : List Pr} {res : Value → Pr} {post : Value → List Res} {d : Nat} (hg : o.guard = none) (hd : o.dst = some d) (hn : d < n) (ho : o.op = .call { callee := .value (.func f), args := xs, argTypes := ts }) (hf : FunV P f ps res post)
  (hv : Vals E xs.toList ps) (k : ∀ v, TO P n ops r ((d, res v) :: E) (Hp M0 w0 S (post v ++ rs)) Q) : TO P n ops (o :: r) E (Hp M0 w0 S rs) Q :=
 TO.callL rs hg hd hn ho hf hv (List.Perm.refl _) fun v _ => k v
end
section
variable {P : Program} {n : Nat} {E : Env} {I : Asn} {Q : Exit → Act → World → Prop} {ops : Array Oper} {o : Oper} {r : List Oper} {g j : Nat} {b want : Bool}
theorem TO.cases (g : Nat) {b : Bool} {l : List Oper} (_hb : E.lookup g = some (bool b)) (ht : b = true → TO P n ops l E I Q) (hf : b = false → TO P n ops l E I Q) : TO P n ops l E I Q := by
 cases b
 · exact hf rfl
 · exact ht rfl
theorem TO.effG (hg : o.guard = some (j, want)) (hj : (ops[j]?).bind (·.dst) = some g) (hb : E.lookup g = some (bool b)) (hbw : b = want) (h : ∀ (K : Act → World → Prop) M w (a : Act), a.tmps.size = n → a.defers = [] → EnvOK M w E a → I.h M w →
  (∀ E' I' a' w', TO P n ops r E' I' Q → St n E' I' a' w' → K a' w') → o.wp P a w K Q) : TO P n ops (o :: r) E I Q := by
 intro k hl a w hs
 have h0 : ops[k]? = some o := by simpa using (hl 0).symm
 obtain ⟨M, hn, hd, he, hI⟩ := hs
 simp only [List.length_cons, List.range'_succ, wpOps, h0]
 have hy := yielded_ob (M := M) (w := w) (b := some b) hj (he g _ hb)
 rw [wanted_some hg hy, if_pos (by simp [hbw])]
 exact .inl (h _ M w a hn hd he hI fun E' I' a' w' hT hst => hT (k + 1) (fun j => by have := hl (j + 1); simpa [Nat.add_assoc, Nat.add_comm 1 j] using this) a' w' hst)
theorem TO.opG {d : Nat} {p : Pr} (hg : o.guard = some (j, want)) (hj : (ops[j]?).bind (·.dst) = some g) (hb : E.lookup g = some (bool b)) (hbw : b = want) (hd : o.dst = some d) (hn : d < n) (h : OpOK P I o E p) (k : TO P n ops r ((d, p) :: E) I Q) : TO P n ops (o :: r) E I Q :=
 TO.effG hg hj hb hbw fun K M w a h1 h2 h3 h4 hK => by
  refine gives_upon (h M w a (looks_env h3) h4) fun v w' hv hb' => hK _ _ _ _ k ⟨M, ?_, ?_, ?_, I.st _ _ _ hb' h4⟩
  · rw [put_size]; exact h1
  · rw [put_defers]; exact h2
  ·
   have := h3.put (o := o) (p := p) hb' hv (fun d' hd' => by rw [hd] at hd'; cases hd'; rw [h1]; exact hn)
   rw [show upd o p E = (d, p) :: E by unfold upd; rw [hd]] at this; exact this
theorem TO.noG {d : Nat} (hg : o.guard = some (j, want)) (hj : (ops[j]?).bind (·.dst) = some g) (hb : E.lookup g = some (bool b)) (hbw : b ≠ want) (hd : o.dst = some d) (hn : d < n) (kk : TO P n ops r ((d, is undef) :: E) I Q) : TO P n ops (o :: r) E I Q := by
 intro k hl a w hs
 have h0 : ops[k]? = some o := by simpa using (hl 0).symm
 obtain ⟨M, h1, h2, he, hI⟩ := hs
 simp only [List.length_cons, List.range'_succ, wpOps, h0]
 have hy := yielded_ob (M := M) (w := w) (b := some b) hj (he g _ hb)
 rw [wanted_some hg hy, if_neg (by simp [hbw])]
 refine kk (k + 1) (fun j => by have := hl (j + 1); simpa [Nat.add_assoc, Nat.add_comm 1 j] using this) _ w ⟨M, by rw [put_size]; exact h1, by rw [put_defers]; exact h2, ?_, hI⟩
 have := he.put (o := o) (p := is undef) (v := undef) (Below.refl w.heap.size w) rfl (fun d' hd' => by rw [hd] at hd'; cases hd'; rw [h1]; exact hn)
 rw [show upd o (is undef) E = (d, is undef) :: E by unfold upd; rw [hd]] at this; exact this
variable {M0 : Av} {w0 : World} {S : Nat → Prop} {rs : List Res}
theorem TO.efcG {d : Nat} {p : Pr} (i : Nat) {R : Res} {R' : Res} (hg : o.guard = some (j, want)) (hj : (ops[j]?).bind (·.dst) = some g) (hb : E.lookup g = some (bool b)) (hbw : b = want) (hR : rs[i]? = some R) (hd : o.dst = some d) (hn : d < n) (h : OpEf P M0 w0 S n i (SR.c R) (SR.c R') { o with guard := none } E p)
  (k : TO P n ops r ((d, p) :: E) (Hp M0 w0 S (rs.set i R')) Q) : TO P n ops (o :: r) E (Hp M0 w0 S rs) Q :=
 TO.effG hg hj hb hbw fun K M w a hsz hdf he hI hK => by
  have hw : ({ o with guard := none } : Oper).wp P a w K Q := step_ef (h.2 M w a rs hsz (looks_env he) hI hR) fun v w' M' hv hx hI' => hK _ _ _ _ k ⟨M', by rw [put_size]; exact hsz, by rw [put_defers]; exact hdf, by
   intro s q hq
   simp only [List.lookup] at hq
   by_cases hs : s = d
   · subst hs; simp at hq; subst hq; show p.h M' w' ((a.put o.dst v).tmps.getD s undef); rw [hd, put_same (by rw [hsz]; exact hn)]; exact hv
   · rw [show (s == d) = false by simpa using hs] at hq; show q.h M' w' ((a.put o.dst v).tmps.getD s undef); rw [hd, put_other hs]; exact q.st _ _ _ _ _ hx (he s q hq), hI'⟩
  exact hw
end
section
variable {P : Program} {E : Env} {I : Asn} {o : Oper}
def fieldB (P : Program) (s : TypeId) (f : Nat) : Option (Nat × TypeId) :=
 match P.underlying s with
 | some (.struct fs) => (fs[f]?).map fun fd => (fd.offset, fd.type)
 | _ => none
theorem fieldB_at {s : TypeId} {f k : Nat} {t : TypeId} (h : fieldB P s f = some (k, t)) : ∃ fs fd, P.underlying s = some (.struct fs) ∧ fs[f]? = some fd ∧ fd.offset = k ∧ fd.type = t := by
 unfold fieldB at h
 cases hu : P.underlying s with
 | none => rw [hu] at h; cases h
 | some d =>
  rw [hu] at h
  cases d with
  | struct fs =>
   simp only at h
   cases hf : fs[f]? with
   | none => rw [hf] at h; cases h
   | some fd =>
    rw [hf] at h
    simp only [Option.map_some, Option.some.injEq, Prod.mk.injEq] at h
    exact ⟨fs, fd, rfl, hf, h.1, h.2⟩
  | _ => cases h
theorem ok_fieldG {s t : TypeId} {x : Operand} {f k sz : Nat} {ps qs : List Pr} (ho : o.op = .field s x f) (hf : fieldB P s f = some (k, t)) (he : aggB P t = true) (hz : sizeB P t = some sz) (hx : VL E x (agg ps)) (hq : (ps.drop k).take sz = qs) : OpOK P I o E (agg qs) :=
 OpOK.same fun M w ac hev _ => by
  obtain ⟨cs, h1, ho1, h2⟩ := hx.ev hev (by simp [ho, Op.operands])
  obtain ⟨fs, fd, hu, hfd, rfl, rfl⟩ := fieldB_at hf
  refine ⟨.agg (cs.toArray.extract fd.offset (fd.offset + sz)), ?_, (cs.drop fd.offset).take sz, ?_, fun c hc => ho1 c (List.mem_of_mem_drop (List.mem_of_mem_take hc)), by rw [← hq]; exact (h2.drop _).take _⟩
  · simp [execOp, ho, h1, Instr.field, asAgg, run_underlying hu, hfd, run_size hz, Go.part, run_isAgg_agg he]
  ·
   congr 1
   apply Array.toList_inj.1
   simp [List.extract, Nat.add_sub_cancel_left]
end
/-- What is known of a type, found by its number. -/
class T1 (P : Program) (t : TypeId) : Prop where
 h : oneB P t = true
class TA (P : Program) (t : TypeId) : Prop where
 h : aggB P t = true
class TZ (P : Program) (t : TypeId) (m : outParam Nat) : Prop where
 h : sizeB P t = some m
class TF (P : Program) (s f : Nat) (k : outParam Nat) : Prop where
 h : fieldOff P s f = some k
class TU (P : Program) (t : TypeId) (d : outParam TypeDesc) : Prop where
 h : P.underlying t = some d
class TB (P : Program) (t : TypeId) (place : outParam (Nat → Option (Nat × Nat))) (zs : outParam (List Value)) : Prop where
 h : ∀ ps, P.built t ps = Instr.fill place zs.toArray ps
 z : zs.all (·.oneCell') = true
class TV (P : Program) (t : TypeId) (zs : outParam (List Value)) : Prop where
 h : zeroB P t = some zs
 z : zs.all (·.oneCell') = true
class TM (P : Program) : Prop where
 h : P.follows .mixedOrders = true
section
variable {P : Program} {n : Nat} {I : Asn} {ops : Array Oper} {o : Oper} {r : List Oper} {E : Env} {K : Env → Prop} {d g j : Nat} {b want : Bool} {p : Pr} {x y : Operand} {Q : Exit → Act → World → Prop} {t u : TypeId}
theorem a_l1 [i : T1 P t] {ps : List Pr} (ho : o.op = .load t x) (hx : Val E x = some (ref (p :: ps))) : OpOK P I o E p := ok_load1 ho i.h (vl hx)
theorem a_lA [i : TA P t] {m : Nat} [z : TZ P t m] {ps qs : List Pr} (ho : o.op = .load t x) (hx : Val E x = some (ref ps)) (hq : ps.take m = qs) (hm : qs.length = m) : OpOK P I o E (agg qs) := ok_loadA ho i.h z.h (vl hx) hq hm
theorem a_fa {s : TypeId} {f k : Nat} [i : TF P s f k] {ps qs : List Pr} (ho : o.op = .fieldAddr s x f) (hx : Val E x = some (ref ps)) (hq : ps.drop k = qs) : OpOK P I o E (ref qs) := ok_fieldAddr ho i.h (vl hx) hq
theorem a_fp {s : TypeId} {f k : Nat} [i : TF P s f k] {b off : Nat} (ho : o.op = .fieldAddr s x f) (hx : Val E x = some (ptr b off)) : OpOK P I o E (ptr b (off + k)) := okp_fieldAddr ho i.h (vl hx)
theorem a_lm {e : TypeId} [i : TU P t (.slice e)] {sz : Nat} {β : Type} {f : β → List Pr} {l : List β} (ho : o.op = .call { callee := .builtin .len, args := #[x], argTypes := #[t] }) (hx : Val E x = some (slice sz (l.map f))) : OpOK P I o E (int ((l.length : Nat) : Int)) := ok_lenm ho i.h (vl hx)
theorem a_ls [i : TU P t .string] {a : List UInt8} (ho : o.op = .call { callee := .builtin .len, args := #[x], argTypes := #[t] }) (hx : Val E x = some (str a)) : OpOK P I o E (int ((a.length : Nat) : Int)) := ok_lens ho i.h (vl hx)
theorem a_eb [i : TU P t .bool] {b c : Bool} (ho : o.op = .binOp .eql t x y u) (hx : Val E x = some (bool b)) (hy : Val E y = some (bool c)) : OpOK P I o E (bool (b == c)) := ok_eqb ho i.h (vl hx) (vl hy)
theorem a_b1 {p : Pr} [One p] (ho : o.op = .box t x) (hx : Val E x = some p) : OpOK P I o E (ref [p]) := ok_box ho (VL.le (vl hx) (one_cellsP p))
theorem a_bA {ps : List Pr} (ho : o.op = .box t x) (hx : Val E x = some (agg ps)) : OpOK P I o E (ref ps) := ok_box ho (VL.le (vl hx) (agg_cellsP ps))
/-- What lies in the cells of a value that reads so. -/
class CP (p : Pr) (ps : outParam (List Pr)) : Prop where
 h : Pr.le p (cellsP ps)
instance cp_agg (ps : List Pr) : CP (agg ps) ps := ⟨agg_cellsP ps⟩
instance (priority := low) cp_one (p : Pr) [One p] : CP p [p] := ⟨one_cellsP p⟩
class CQ (p : Pr) (ps : outParam (List Pr)) : Prop where
 h : Pr.le p (cellsP ps)
instance cq_agg (ps : List Pr) : CQ (agg ps) ps := ⟨agg_cellsP ps⟩
instance cq_int (k : IntKind) (n : Int) : CQ (is (.int k n)) [is (.int k n)] := ⟨one_cellsP _⟩
instance cq_bool (b : Bool) : CQ (is (.bool b)) [is (.bool b)] := ⟨one_cellsP _⟩
instance cq_str (s : ByteArray) : CQ (is (.string s)) [is (.string s)] := ⟨one_cellsP _⟩
instance cq_ptr (a : Option Addr) : CQ (is (.pointer a)) [is (.pointer a)] := ⟨one_cellsP _⟩
instance cq_slice (sz : Nat) (rows : List (List Pr)) : CQ (slice sz rows) [slice sz rows] := ⟨one_cellsP _⟩
instance cq_ref (ps : List Pr) : CQ (ref ps) [ref ps] := ⟨one_cellsP _⟩
instance cq_fn (f : Fn) (ps : List Pr) : CQ (fn f ps) [fn f ps] := ⟨one_cellsP _⟩
theorem vf0 : ValF E [] [] := trivial
theorem vf1 {i : Nat} {q : Pr} {row : List Pr} [c : CQ q row] {xs : List (Nat × Operand)} {rows : List (Nat × List Pr)} (hx : Val E x = some q) (h : ValF E xs rows) : ValF E ((i, x) :: xs) ((i, row) :: rows) := ⟨⟨rfl, VL.le (vl hx) c.h⟩, h⟩
theorem vr0 {sz : Nat} : ValR E sz [] [] := trivial
theorem vr1 {sz : Nat} {q : Pr} {row : List Pr} [c : CQ q row] {xs : List Operand} {rows : List (List Pr)} (hx : Val E x = some q) (hl : row.length = sz) (h : ValR E sz xs rows) : ValR E sz (x :: xs) (row :: rows) := ⟨⟨hl, VL.le (vl hx) c.h⟩, h⟩
theorem a_bd {parts : Array (Nat × Operand)} {place : Nat → Option (Nat × Nat)} {zs : List Value} [i : TB P t place zs] {rows : List (Nat × List Pr)} {qs : List Pr} (ho : o.op = .build t parts) (hx : ValF E parts.toList rows) (hq : fillP place (zs.map is) rows = some qs) : OpOK P I o E (agg qs) := ok_build ho i.h i.z hx hq
theorem a_bs {e : TypeId} {sz m : Nat} {zs : List Value} {xs : List Operand} {parts : Array (Nat × Operand)} {rows : List (List Pr)} [i : TU P t (.slice e)] [z : TZ P e sz] [v : TV P e zs] (ho : o.op = .buildSlice t m parts) (hp : parts.toList.map Prod.snd = xs) (hm : (m == xs.length && (parts.toList.map Prod.fst == List.range m) && zs.length == sz && Nat.blt 0 sz && Nat.ble (m * sz) 16777216) = true) (hx : ValR E sz xs rows) : OpOK P I o E (full sz rows) := by
 simp only [Bool.and_eq_true, beq_iff_eq, Nat.blt_eq, Nat.ble_eq] at hm
 obtain ⟨⟨⟨⟨h1, h2⟩, h3⟩, h4⟩, h5⟩ := hm
 subst h1
 refine ok_buildSlice ho ?_ i.h z.h v.h h3 h4 hx h5
 refine List.ext_getElem (by rw [← hp]; simp) fun k h6 h7 => ?_
 have h8 : k < xs.length := by simpa using h7
 simp only [List.getElem_map, List.getElem_zipIdx, Nat.zero_add]
 have e1 : (parts.toList.map Prod.fst)[k]'(by simpa using h6) = k := by simp only [h2]; exact List.getElem_range _
 have e2 : (parts.toList.map Prod.snd)[k]'(by simpa using h6) = xs[k] := by simp only [hp]
 simp only [List.getElem_map] at e1 e2
 exact Prod.ext e1 e2
section
variable {M0 : Av} {w0 : World} {S : Nat → Prop} {b off : Nat} {T : TypeId} {new : Bool} {ps qs : List Pr} {m : Nat} {q : Pr}
theorem a_r1 [i : T1 P t] (ho : o.op = .load t x) (hx : Val E x = some (ptr b off)) (hp : ps[off]? = some p) : OpRd P M0 w0 S j (SR.c (cellsRes new b T ps)) o E p := rd_load1 ho i.h (vl hx) hp
theorem a_rA [i : TA P t] [z : TZ P t m] (ho : o.op = .load t x) (hx : Val E x = some (ptr b off)) (hq : (ps.drop off).take m = qs) (hm : qs.length = m) : OpRd P M0 w0 S j (SR.c (cellsRes new b T ps)) o E (agg qs) := rd_loadA ho i.h z.h (vl hx) hq hm
theorem a_st {ps' : List Pr} [z : TZ P t m] [c : CP q qs] (hg : o.guard = none) (ho : o.op = .store t x y) (hx : Val E x = some (ptr b off)) (hy : Val E y = some q) (hm : qs.length = m := by rfl) (hl : Nat.ble (off + m) ps.length = true := by rfl) (hps : ps.take off ++ qs ++ ps.drop (off + m) = ps' := by rfl) : OpEf P M0 w0 S n j (SR.c (cellsRes new b T ps)) (SR.c (cellsRes new b T ps')) o E any := ef_store hg ho (vl hx) (VL.le (vl hy) c.h) z.h hm (Nat.le_of_ble_eq_true hl) hps
variable {rs : List Res}
/-- A store that is the last one: no one turns it. -/
theorem sf (i s : Nat) [z : TZ P t m] [c : CP q qs] (hg : o.guard = none ∧ o.dst = none ∧ o.op = .store t x y) (hx : Val E x = some (ptr b 0)) (hy : Val E y = some q) (hi : rs[i]? = some (cellsRes true b T ps)) (hs : E.lookup s = some (ptr b 0))
  (k : TO P n ops r ((s, ref qs) :: E) (Hp M0 w0 S ((rs.set i (cellsRes true b T qs)).eraseIdx i)) Q) (hm : qs.length = m := by rfl) (hl : ps.length = m := by rfl) : TO P n ops (o :: r) E (Hp M0 w0 S rs) Q :=
 TO.store_all i hg.1 hg.2.1 hg.2.2 (vl hx) (VL.le (vl hy) c.h) hi z.h hm hl (TO.freeze (ps := qs) i s (by
  have hlt : i < rs.length := by rcases Nat.lt_or_ge i rs.length with h | h; exact h; rw [List.getElem?_eq_none h] at hi; cases hi
  rw [List.getElem?_set_self hlt]) hs k)
theorem sa (i : Nat) [z : TZ P t m] [c : CP q qs] (hg : o.guard = none ∧ o.dst = none ∧ o.op = .store t x y) (hx : Val E x = some (ptr b 0)) (hy : Val E y = some q) (hi : rs[i]? = some (cellsRes new b T ps))
  (k : TO P n ops r E (Hp M0 w0 S (rs.set i (cellsRes new b T qs))) Q) (hm : qs.length = m := by rfl) (hl : ps.length = m := by rfl) : TO P n ops (o :: r) E (Hp M0 w0 S rs) Q := TO.store_all i hg.1 hg.2.1 hg.2.2 (vl hx) (VL.le (vl hy) c.h) hi z.h hm hl k
end
/-- Which kind of operation it is. -/
def opk (o : Oper) : Nat := match o.op with
 | .move .. => 1
 | .assign .. => 1
 | .fieldAddr .. => 2
 | .load .. => 3
 | .binOp .add .. => 7
 | .binOp .sub .. => 8
 | .binOp .. => 4
 | .pick .. => 5
 | .nilCheck .. => 6
 | .call { callee := .builtin .len, .. } => 9
 | .unOp .. => 10
 | .box .. => 11
 | .extract .. => 12
 | .makeFunc .. => 13
 | .build .. => 14
 | .buildSlice .. => 15
 | .store .. => 16
 | _ => 0
/-- Plain: no guard. -/
def isPl (o : Oper) : Bool := o.guard.isNone
def grp (o : Oper) : Nat := if opk o = 0 then 0 else if opk o < 5 then 1 else if opk o < 9 then 2 else if opk o < 16 then 3 else 4
theorem a_ad {m z : Int} (ho : o.op = .binOp .add t x y u) (hx : Val E x = some (int m)) (hy : Val E y = some (int z)) (hr : -9223372036854775808 ≤ m + z ∧ m + z ≤ 9223372036854775807) : OpOK P I o E (int (m + z)) := ok_add ho (vl hx) (vl hy) hr
theorem a_su {m z : Int} (ho : o.op = .binOp .sub t x y u) (hx : Val E x = some (int m)) (hy : Val E y = some (int z)) (hr : -9223372036854775808 ≤ m - z ∧ m - z ≤ 9223372036854775807) : OpOK P I o E (int (m - z)) := ok_sub ho (vl hx) (vl hy) hr
theorem oF (h : OpOK P I o E p := by first | exact a_fa rfl rfl rfl | exact a_fp rfl rfl) : OpOK P I o E p := h
theorem oL (h : OpOK P I o E p := by first | exact a_l1 rfl rfl | exact a_lA rfl rfl rfl rfl | exact ok_rd 0 rfl (a_r1 rfl rfl rfl) | exact ok_rd 0 rfl (a_rA rfl rfl rfl rfl) | exact ok_rd 1 rfl (a_r1 rfl rfl rfl) | exact ok_rd 1 rfl (a_rA rfl rfl rfl rfl) | exact ok_rd 2 rfl (a_r1 rfl rfl rfl) | exact ok_rd 2 rfl (a_rA rfl rfl rfl rfl) | exact ok_rd 3 rfl (a_r1 rfl rfl rfl) | exact ok_rd 3 rfl (a_rA rfl rfl rfl rfl) | exact ok_rd 4 rfl (a_r1 rfl rfl rfl) | exact ok_rd 4 rfl (a_rA rfl rfl rfl rfl)) : OpOK P I o E p := h
theorem oB (h : OpOK P I o E p := by first | exact ki rfl rfl rfl rfl | exact ok_eqs rfl (vl rfl) (vl rfl) | exact ok_nes rfl (vl rfl) (vl rfl) | exact a_eb rfl rfl rfl) : OpOK P I o E p := h
theorem oP (h : OpOK P I o E p := by first | exact kpt rfl rfl (by first | rfl | assumption) rfl | exact kpf rfl rfl (by first | rfl | assumption) rfl | exact ok_pickOr rfl (vl rfl) (vl rfl) | exact ok_pickAnd rfl (vl rfl) (vl rfl)) : OpOK P I o E p := h
theorem oN (h : OpOK P I o E p := by first | exact okp_nilCheck rfl (vl rfl) | exact ok_nilCheck_ref rfl (vl rfl) | exact ok_nilCheck_fn rfl (vl rfl)) : OpOK P I o E p := h
theorem oA (h : OpOK P I o E p := by first | exact a_ad rfl rfl rfl (by omega) | exact ki rfl rfl rfl rfl) : OpOK P I o E p := h
theorem oS (h : OpOK P I o E p := by first | exact a_su rfl rfl rfl (by omega) | exact ki rfl rfl rfl rfl) : OpOK P I o E p := h
theorem oC (h : OpOK P I o E p := by first | exact a_lm rfl rfl | exact a_ls rfl rfl) : OpOK P I o E p := h
theorem oU (h : OpOK P I o E p := by first | exact ok_not rfl (vl rfl)) : OpOK P I o E p := h
theorem oO (h : OpOK P I o E p := by first | exact a_bA rfl rfl | exact a_b1 rfl rfl) : OpOK P I o E p := h
theorem oE (h : OpOK P I o E p := by first | exact ok_extract rfl (vl rfl) rfl) : OpOK P I o E p := h
theorem oM (h : OpOK P I o E p := by first | exact ok_makeFunc rfl rfl) : OpOK P I o E p := h
theorem oD (h : OpOK P I o E p := by first | exact a_bd rfl (by repeat any_goals first | exact vf0 | refine' vf1 rfl ?_) (by rfl)) : OpOK P I o E p := h
theorem oI (h : OpOK P I o E p := by first | exact a_bs rfl rfl (by rfl) (by repeat any_goals first | exact vr0 | refine' vr1 rfl (by rfl) ?_)) : OpOK P I o E p := h
theorem kc0 {f : FuncId} {ts : Array TypeId} {res : Pr} (hf : Fun P f [] res) (ho : o.op = .call { callee := .value (.func f), args := #[], argTypes := ts }) : OpOK P I o E res := ok_call ho hf trivial
theorem kc1 {f : FuncId} {ts : Array TypeId} {x0 : Operand} {p0 : Pr} {res : Pr} (hf : Fun P f [p0] res) (ho : o.op = .call { callee := .value (.func f), args := #[x0], argTypes := ts }) (h0 : Val E x0 = some p0) : OpOK P I o E res := ok_call ho hf ⟨ke h0, trivial⟩
theorem kc2 {f : FuncId} {ts : Array TypeId} {x0 : Operand} {p0 : Pr} {x1 : Operand} {p1 : Pr} {res : Pr} (hf : Fun P f [p0, p1] res) (ho : o.op = .call { callee := .value (.func f), args := #[x0, x1], argTypes := ts }) (h0 : Val E x0 = some p0) (h1 : Val E x1 = some p1) : OpOK P I o E res := ok_call ho hf ⟨ke h0, ke h1, trivial⟩
theorem kc3 {f : FuncId} {ts : Array TypeId} {x0 : Operand} {p0 : Pr} {x1 : Operand} {p1 : Pr} {x2 : Operand} {p2 : Pr} {res : Pr} (hf : Fun P f [p0, p1, p2] res) (ho : o.op = .call { callee := .value (.func f), args := #[x0, x1, x2], argTypes := ts }) (h0 : Val E x0 = some p0) (h1 : Val E x1 = some p1) (h2 : Val E x2 = some p2) : OpOK P I o E res := ok_call ho hf ⟨ke h0, ke h1, ke h2, trivial⟩
theorem kc4 {f : FuncId} {ts : Array TypeId} {x0 : Operand} {p0 : Pr} {x1 : Operand} {p1 : Pr} {x2 : Operand} {p2 : Pr} {x3 : Operand} {p3 : Pr} {res : Pr} (hf : Fun P f [p0, p1, p2, p3] res) (ho : o.op = .call { callee := .value (.func f), args := #[x0, x1, x2, x3], argTypes := ts }) (h0 : Val E x0 = some p0) (h1 : Val E x1 = some p1) (h2 : Val E x2 = some p2) (h3 : Val E x3 = some p3) : OpOK P I o E res := ok_call ho hf ⟨ke h0, ke h1, ke h2, ke h3, trivial⟩
theorem kc5 {f : FuncId} {ts : Array TypeId} {x0 : Operand} {p0 : Pr} {x1 : Operand} {p1 : Pr} {x2 : Operand} {p2 : Pr} {x3 : Operand} {p3 : Pr} {x4 : Operand} {p4 : Pr} {res : Pr} (hf : Fun P f [p0, p1, p2, p3, p4] res) (ho : o.op = .call { callee := .value (.func f), args := #[x0, x1, x2, x3, x4], argTypes := ts }) (h0 : Val E x0 = some p0) (h1 : Val E x1 = some p1) (h2 : Val E x2 = some p2) (h3 : Val E x3 = some p3) (h4 : Val E x4 = some p4) : OpOK P I o E res := ok_call ho hf ⟨ke h0, ke h1, ke h2, ke h3, ke h4, trivial⟩
theorem cP (_ : isPl o = true) (h : Ch P n I ops (o :: r) E K) : Ch P n I ops (o :: r) E K := h
theorem cG (_ : isPl o = false) (h : Ch P n I ops (o :: r) E K) : Ch P n I ops (o :: r) E K := h
theorem cK (k : Nat) (_ : opk o = k) (h : Ch P n I ops (o :: r) E K) : Ch P n I ops (o :: r) E K := h
theorem cS (k : Nat) (_ : grp o = k) (h : Ch P n I ops (o :: r) E K) : Ch P n I ops (o :: r) E K := h
theorem tK (k : Nat) (_ : opk o = k) (h : TO P n ops (o :: r) E I Q) : TO P n ops (o :: r) E I Q := h
theorem tG (k : Nat) (_ : grp o = k) (h : TO P n ops (o :: r) E I Q) : TO P n ops (o :: r) E I Q := h
theorem Tr.rm [i : TM P] {id : Nat} {l : List Oper} (hB : drawOk l = true) (h : Ch P n I l.toArray l E (fun E' => Fin n E' I Q .normal)) : Tr P n E I (.region id l.toArray true) Q := Tr.reg1 i.h hB h
theorem Tr.ct {c : Operand} {y z : Code} (hc : Val E c = some (bool true)) (k : Tr P n E I y Q) : Tr P n E I (.cond c y z) Q := Tr.cond hc (fun _ => k) (fun h => nomatch h)
theorem Tr.cf {c : Operand} {y z : Code} (hc : Val E c = some (bool false)) (k : Tr P n E I z Q) : Tr P n E I (.cond c y z) Q := Tr.cond hc (fun h => nomatch h) (fun _ => k)
/-- What comes later. -/
structure Lt_ (G : Prop) : Prop where
 k : G
theorem Cx.mono {M0 : Av} {w0 : World} {S : Nat → Prop} : ∀ {l : List Oper} {E : Env} {rs : List SR} {K K' : List X → Env → List SR → Prop}, (∀ L E rs, K L E rs → K' L E rs) → Cx P M0 w0 S n ops l E rs K → Cx P M0 w0 S n ops l E rs K'
 | [], _, _, _, _, h, k => h _ _ _ k
 | _ :: _, _, _, _, _, h, ⟨p, k, h1, h2, h3⟩ => ⟨p, k, h1, h2, Cx.mono (fun _ _ _ => h _ _ _) h3⟩
theorem Cx.keys {M0 : Av} {w0 : World} {S : Nat → Prop} : ∀ {l : List Oper} {E : Env} {rs : List SR} {K : List X → Env → List SR → Prop}, Cx P M0 w0 S n ops l E rs K → ∃ ks : List KN, Cx P M0 w0 S n ops l E rs (fun L E' rs' => L.map (·.k.nums) = ks ∧ K L E' rs')
 | [], _, _, _, k => ⟨[], rfl, k⟩
 | _ :: _, _, _, _, ⟨p, k, h1, h2, h3⟩ => by
  obtain ⟨ks, h4⟩ := Cx.keys h3
  exact ⟨k.nums :: ks, p, k, h1, h2, Cx.mono (fun L E rs h => ⟨by rw [List.map_cons, h.1], h.2⟩) h4⟩
theorem Tr.rx [i : TM P] {M0 : Av} {w0 : World} {S : Nat → Prop} {id : Nat} {l : List Oper} {rs0 : List Res}
  (h : Cx P M0 w0 S n l.toArray l E (rs0.map SR.c) (fun L E' rs' => drawOkX l (L.map (·.k.nums)) = true ∧ FinX n M0 w0 S E' rs' Q)) : Tr P n E (Hp M0 w0 S rs0) (.region id l.toArray true) Q := by
 obtain ⟨ks, hk⟩ := Cx.keys h
 obtain ⟨L, h1, h2, h3⟩ := cx_list l 0 E _ hk
 exact Tr.regX i.h ks (by rw [← h3.1]; exact h3.2.1) (hk.mono fun _ _ _ h => ⟨h.1, h.2.2⟩)
theorem al1 {rs : List Res} {r0 : Res} : AllC (SR.c r0 :: rs.map SR.c) (r0 :: rs) := .cons (AllC.map _)
theorem al2 {rs : List Res} {r0 : Res} {r1 : Res} : AllC (SR.c r0 :: SR.c r1 :: rs.map SR.c) (r0 :: r1 :: rs) := .cons (.cons (AllC.map _))
theorem al3 {rs : List Res} {r0 : Res} {r1 : Res} {r2 : Res} : AllC (SR.c r0 :: SR.c r1 :: SR.c r2 :: rs.map SR.c) (r0 :: r1 :: r2 :: rs) := .cons (.cons (.cons (AllC.map _)))
theorem al4 {rs : List Res} {r0 : Res} {r1 : Res} {r2 : Res} {r3 : Res} : AllC (SR.c r0 :: SR.c r1 :: SR.c r2 :: SR.c r3 :: rs.map SR.c) (r0 :: r1 :: r2 :: r3 :: rs) := .cons (.cons (.cons (.cons (AllC.map _))))
theorem al5 {rs : List Res} {r0 : Res} {r1 : Res} {r2 : Res} {r3 : Res} {r4 : Res} : AllC (SR.c r0 :: SR.c r1 :: SR.c r2 :: SR.c r3 :: SR.c r4 :: rs.map SR.c) (r0 :: r1 :: r2 :: r3 :: r4 :: rs) := .cons (.cons (.cons (.cons (.cons (AllC.map _)))))
theorem fo {f : FuncId} {g : Func} {c : Code} {ps : List Pr} {res : Pr} (hf : P.funcs[f]? = some g) (hb : g.body = some c) (hname : ((g.name == "runtime.NumGoroutine") = false ∧ Nat.ble ps.length g.ntmps = true))
  (h : ∀ M0 w0, Tr P g.ntmps (penv 0 ps) (Bse M0 w0) c (bodyPost P g (Back M0 w0 res))) : Fun P f ps res := Fun.of hf hb hname.1 (Nat.le_of_ble_eq_true hname.2) h
section
variable {M0 : Av} {w0 : World} {S : Nat → Prop} {rs : List SR} {KX : List X → Env → List SR → Prop}
theorem xId {l : List Oper} (h : Cx P M0 w0 S n ops l E rs KX) : Cx P M0 w0 S n ops l E rs KX := h
theorem xK (k : Nat) (_ : opk o = k) (h : Cx P M0 w0 S n ops (o :: r) E rs KX) : Cx P M0 w0 S n ops (o :: r) E rs KX := h
theorem xG (k : Nat) (_ : grp o = k) (h : Cx P M0 w0 S n ops (o :: r) E rs KX) : Cx P M0 w0 S n ops (o :: r) E rs KX := h
end
theorem cId {l : List Oper} (h : Ch P n I ops l E K) : Ch P n I ops l E K := h
theorem rId {c : Code} (h : Tr P n E I c Q) : Tr P n E I c Q := h
theorem fId {e : Exit} (h : Fin n E I Q e) : Fin n E I Q e := h
theorem tId {l : List Oper} (h : TO P n ops l E I Q) : TO P n ops l E I Q := h
/-- On to the next statement. -/
theorem ac {G H : Prop} (k : G) (h : Lt_ G → H := by
 intro k
 repeat1' first
  | ((with_reducible refine cId ?_); first
   | with_reducible refine Ch.nil ?_
   | (refine cP rfl ?_; first
    | (refine cS 1 rfl ?_; first
      | (refine cK 1 rfl ?_; refine cm rfl ?_)
      | (refine cK 2 rfl ?_; refine co rfl oF ?_)
      | (refine cK 3 rfl ?_; refine co rfl oL ?_)
      | (refine cK 4 rfl ?_; refine co rfl oB ?_))
    | (refine cS 2 rfl ?_; first
      | (refine cK 5 rfl ?_; refine co rfl oP ?_)
      | (refine cK 6 rfl ?_; refine co rfl oN ?_)
      | (refine cK 7 rfl ?_; refine co rfl oA ?_)
      | (refine cK 8 rfl ?_; refine co rfl oS ?_))
    | (refine cS 3 rfl ?_; first
      | (refine cK 9 rfl ?_; refine co rfl oC ?_)
      | (refine cK 10 rfl ?_; refine co rfl oU ?_)
      | (refine cK 11 rfl ?_; refine co rfl oO ?_)
      | (refine cK 12 rfl ?_; refine co rfl oE ?_)
      | (refine cK 13 rfl ?_; refine co rfl oM ?_)
      | (refine cK 14 rfl ?_; refine co rfl oD ?_)
      | (refine cK 15 rfl ?_; refine co rfl oI ?_)))
   | (refine cG rfl ?_; first
    | refine cu rfl ?_
    | refine cnt (by assumption) rfl ?_
    | refine cnf (by assumption) rfl ?_
    | (refine cS 1 rfl ?_; first
      | (refine cK 1 rfl ?_; refine cym (by first | assumption | rfl) rfl ?_)
      | (refine cK 2 rfl ?_; refine cy (by first | assumption | rfl) rfl oF ?_)
      | (refine cK 3 rfl ?_; refine cy (by first | assumption | rfl) rfl oL ?_)
      | (refine cK 4 rfl ?_; refine cy (by first | assumption | rfl) rfl oB ?_))
    | (refine cS 2 rfl ?_; first
      | (refine cK 5 rfl ?_; refine cy (by first | assumption | rfl) rfl oP ?_)
      | (refine cK 6 rfl ?_; refine cy (by first | assumption | rfl) rfl oN ?_)
      | (refine cK 7 rfl ?_; refine cy (by first | assumption | rfl) rfl oA ?_)
      | (refine cK 8 rfl ?_; refine cy (by first | assumption | rfl) rfl oS ?_))
    | (refine cS 3 rfl ?_; first
      | (refine cK 9 rfl ?_; refine cy (by first | assumption | rfl) rfl oC ?_)
      | (refine cK 10 rfl ?_; refine cy (by first | assumption | rfl) rfl oU ?_)
      | (refine cK 11 rfl ?_; refine cy (by first | assumption | rfl) rfl oO ?_)
      | (refine cK 12 rfl ?_; refine cy (by first | assumption | rfl) rfl oE ?_)
      | (refine cK 13 rfl ?_; refine cy (by first | assumption | rfl) rfl oM ?_)
      | (refine cK 14 rfl ?_; refine cy (by first | assumption | rfl) rfl oD ?_)
      | (refine cK 15 rfl ?_; refine cy (by first | assumption | rfl) rfl oI ?_))
    | refine cnd rfl rfl ?_))
  | ((with_reducible refine rId ?_); first
   | with_reducible refine Tr.seq ?_
   | with_reducible refine Tr.reg0 ?_
   | refine Tr.rm (by kernel_rfl) ?_
   | with_reducible refine Tr.skip ?_
   | with_reducible refine Tr.block ?_
   | with_reducible refine Tr.ret ?_
   | with_reducible refine Tr.exit ?_
   | refine Tr.ct rfl ?_
   | refine Tr.cf rfl ?_)
  | ((with_reducible refine fId ?_); first
   | with_reducible refine Fin.then_ret ?_
   | with_reducible refine Fin.block_ret ?_
   | with_reducible refine Fin.then_exit ?_
   | with_reducible refine Fin.block_here ?_
   | refine Fin.block_on rfl ?_
   | with_reducible refine Fin.block ?_
   | refine Fin.ret1 rfl (OutW.bse _ _) rfl ?_)
 first | with_reducible refine Fin.go ?_ | with_reducible refine cId ?_ | with_reducible refine tId ?_ | with_reducible refine rId ?_ | refine Fin.go ?_ | skip
 exact k.k) : H := h ⟨k⟩
/-- The same, with what is turned. -/
theorem ao {G H : Prop} (k : G) (h : Lt_ G → H := by
 intro k
 repeat1' first
  | ((with_reducible refine tId ?_); first
   | with_reducible refine TO.nil ?_
   | (refine tG 1 rfl ?_; first
     | (refine tK 1 rfl ?_; refine tm rfl ?_)
     | (refine tK 2 rfl ?_; refine tp rfl oF ?_)
     | (refine tK 3 rfl ?_; refine tp rfl oL ?_)
     | (refine tK 4 rfl ?_; refine tp rfl oB ?_))
   | (refine tG 2 rfl ?_; first
     | (refine tK 5 rfl ?_; refine tp rfl oP ?_)
     | (refine tK 6 rfl ?_; refine tp rfl oN ?_)
     | (refine tK 7 rfl ?_; refine tp rfl oA ?_)
     | (refine tK 8 rfl ?_; refine tp rfl oS ?_))
   | (refine tG 3 rfl ?_; first
     | (refine tK 9 rfl ?_; refine tp rfl oC ?_)
     | (refine tK 10 rfl ?_; refine tp rfl oU ?_)
     | (refine tK 12 rfl ?_; refine tp rfl oE ?_)
     | (refine tK 13 rfl ?_; refine tp rfl oM ?_)
     | (refine tK 14 rfl ?_; refine tp rfl oD ?_)
     | (refine tK 15 rfl ?_; refine tp rfl oI ?_)))
  | ((with_reducible refine rId ?_); first
   | with_reducible refine Tr.seq ?_
   | with_reducible refine Tr.regT ?_
   | with_reducible refine Tr.skip ?_
   | with_reducible refine Tr.block ?_
   | with_reducible refine Tr.ret ?_
   | with_reducible refine Tr.exit ?_)
  | ((with_reducible refine fId ?_); first
   | with_reducible refine Fin.then_ret ?_
   | with_reducible refine Fin.block_ret ?_
   | with_reducible refine Fin.then_exit ?_
   | with_reducible refine Fin.block_here ?_
   | refine Fin.block_on rfl ?_
   | with_reducible refine Fin.block ?_)
 first | with_reducible refine Fin.go ?_ | with_reducible refine cId ?_ | with_reducible refine tId ?_ | with_reducible refine rId ?_ | refine Fin.go ?_ | skip
 exact k.k) : H := h ⟨k⟩
/-- And stores. -/
theorem ap {G H : Prop} (k : G) (h : Lt_ G → H := by
 intro k
 repeat1' first
  | ((with_reducible refine tId ?_); first
   | with_reducible refine TO.nil ?_
   | (refine tG 1 rfl ?_; first
     | (refine tK 1 rfl ?_; refine tm rfl ?_)
     | (refine tK 2 rfl ?_; refine tp rfl oF ?_)
     | (refine tK 3 rfl ?_; refine tp rfl oL ?_)
     | (refine tK 4 rfl ?_; refine tp rfl oB ?_))
   | (refine tG 2 rfl ?_; first
     | (refine tK 5 rfl ?_; refine tp rfl oP ?_)
     | (refine tK 6 rfl ?_; refine tp rfl oN ?_)
     | (refine tK 7 rfl ?_; refine tp rfl oA ?_)
     | (refine tK 8 rfl ?_; refine tp rfl oS ?_))
   | (refine tG 3 rfl ?_; first
     | (refine tK 9 rfl ?_; refine tp rfl oC ?_)
     | (refine tK 10 rfl ?_; refine tp rfl oU ?_)
     | (refine tK 12 rfl ?_; refine tp rfl oE ?_)
     | (refine tK 13 rfl ?_; refine tp rfl oM ?_)
     | (refine tK 14 rfl ?_; refine tp rfl oD ?_)
     | (refine tK 15 rfl ?_; refine tp rfl oI ?_))
   | (refine tK 16 rfl ?_; first
    | refine sa 0 ⟨rfl, rfl, rfl⟩ rfl rfl rfl ?_
    | refine TO.ef0 0 rfl rfl (a_st rfl rfl rfl rfl) ?_
    | refine sa 1 ⟨rfl, rfl, rfl⟩ rfl rfl rfl ?_
    | refine TO.ef0 1 rfl rfl (a_st rfl rfl rfl rfl) ?_
    | refine sa 2 ⟨rfl, rfl, rfl⟩ rfl rfl rfl ?_
    | refine TO.ef0 2 rfl rfl (a_st rfl rfl rfl rfl) ?_
    | refine sa 3 ⟨rfl, rfl, rfl⟩ rfl rfl rfl ?_
    | refine TO.ef0 3 rfl rfl (a_st rfl rfl rfl rfl) ?_))
  | ((with_reducible refine rId ?_); first
   | with_reducible refine Tr.seq ?_
   | with_reducible refine Tr.regT ?_
   | with_reducible refine Tr.skip ?_
   | with_reducible refine Tr.block ?_
   | with_reducible refine Tr.ret ?_
   | with_reducible refine Tr.exit ?_)
  | ((with_reducible refine fId ?_); first
   | with_reducible refine Fin.then_ret ?_
   | with_reducible refine Fin.block_ret ?_
   | with_reducible refine Fin.then_exit ?_
   | with_reducible refine Fin.block_here ?_
   | refine Fin.block_on rfl ?_
   | with_reducible refine Fin.block ?_)
 first | with_reducible refine Fin.go ?_ | with_reducible refine cId ?_ | with_reducible refine tId ?_ | with_reducible refine rId ?_ | refine Fin.go ?_ | skip
 exact k.k) : H := h ⟨k⟩
/-- The same in a drawn region that writes. -/
theorem ax {G H : Prop} (k : G) (h : Lt_ G → H := by
 intro k
 repeat ((with_reducible refine xId ?_); first
   | (refine xG 1 rfl ?_; first
     | (refine xK 1 rfl ?_; refine xm rfl ?_)
     | (refine xK 2 rfl ?_; refine xo rfl (fun _ => oF) ?_)
     | (refine xK 3 rfl ?_; refine xo rfl (fun _ => oL) ?_)
     | (refine xK 4 rfl ?_; refine xo rfl (fun _ => oB) ?_))
   | (refine xG 2 rfl ?_; first
     | (refine xK 5 rfl ?_; refine xo rfl (fun _ => oP) ?_)
     | (refine xK 6 rfl ?_; refine xo rfl (fun _ => oN) ?_)
     | (refine xK 7 rfl ?_; refine xo rfl (fun _ => oA) ?_)
     | (refine xK 8 rfl ?_; refine xo rfl (fun _ => oS) ?_))
   | (refine xG 3 rfl ?_; first
     | (refine xK 9 rfl ?_; refine xo rfl (fun _ => oC) ?_)
     | (refine xK 10 rfl ?_; refine xo rfl (fun _ => oU) ?_)
     | (refine xK 11 rfl ?_; refine xo rfl (fun _ => oO) ?_)
     | (refine xK 12 rfl ?_; refine xo rfl (fun _ => oE) ?_)
     | (refine xK 13 rfl ?_; refine xo rfl (fun _ => oM) ?_)
     | (refine xK 14 rfl ?_; refine xo rfl (fun _ => oD) ?_))
   | (refine xK 3 rfl ?_; first
    | refine xrd 0 rfl rfl (a_r1 rfl rfl rfl) ?_
    | refine xrd 0 rfl rfl (a_rA rfl rfl rfl rfl) ?_
    | refine xrd 1 rfl rfl (a_r1 rfl rfl rfl) ?_
    | refine xrd 1 rfl rfl (a_rA rfl rfl rfl rfl) ?_
    | refine xrd 2 rfl rfl (a_r1 rfl rfl rfl) ?_
    | refine xrd 2 rfl rfl (a_rA rfl rfl rfl rfl) ?_
    | refine xrd 3 rfl rfl (a_r1 rfl rfl rfl) ?_
    | refine xrd 3 rfl rfl (a_rA rfl rfl rfl rfl) ?_
    | refine xrd 4 rfl rfl (a_r1 rfl rfl rfl) ?_
    | refine xrd 4 rfl rfl (a_rA rfl rfl rfl rfl) ?_))
 exact k.k) : H := h ⟨k⟩
/-- And stores. -/
theorem ay {G H : Prop} (k : G) (h : Lt_ G → H := by
 intro k
 repeat ((with_reducible refine xId ?_); first
   | (refine xG 1 rfl ?_; first
     | (refine xK 1 rfl ?_; refine xm rfl ?_)
     | (refine xK 2 rfl ?_; refine xo rfl (fun _ => oF) ?_)
     | (refine xK 3 rfl ?_; refine xo rfl (fun _ => oL) ?_)
     | (refine xK 4 rfl ?_; refine xo rfl (fun _ => oB) ?_))
   | (refine xG 2 rfl ?_; first
     | (refine xK 5 rfl ?_; refine xo rfl (fun _ => oP) ?_)
     | (refine xK 6 rfl ?_; refine xo rfl (fun _ => oN) ?_)
     | (refine xK 7 rfl ?_; refine xo rfl (fun _ => oA) ?_)
     | (refine xK 8 rfl ?_; refine xo rfl (fun _ => oS) ?_))
   | (refine xG 3 rfl ?_; first
     | (refine xK 9 rfl ?_; refine xo rfl (fun _ => oC) ?_)
     | (refine xK 10 rfl ?_; refine xo rfl (fun _ => oU) ?_)
     | (refine xK 11 rfl ?_; refine xo rfl (fun _ => oO) ?_)
     | (refine xK 12 rfl ?_; refine xo rfl (fun _ => oE) ?_)
     | (refine xK 13 rfl ?_; refine xo rfl (fun _ => oM) ?_)
     | (refine xK 14 rfl ?_; refine xo rfl (fun _ => oD) ?_))
   | (refine xK 3 rfl ?_; first
    | refine xrd 0 rfl rfl (a_r1 rfl rfl rfl) ?_
    | refine xrd 0 rfl rfl (a_rA rfl rfl rfl rfl) ?_
    | refine xrd 1 rfl rfl (a_r1 rfl rfl rfl) ?_
    | refine xrd 1 rfl rfl (a_rA rfl rfl rfl rfl) ?_
    | refine xrd 2 rfl rfl (a_r1 rfl rfl rfl) ?_
    | refine xrd 2 rfl rfl (a_rA rfl rfl rfl rfl) ?_
    | refine xrd 3 rfl rfl (a_r1 rfl rfl rfl) ?_
    | refine xrd 3 rfl rfl (a_rA rfl rfl rfl rfl) ?_
    | refine xrd 4 rfl rfl (a_r1 rfl rfl rfl) ?_
    | refine xrd 4 rfl rfl (a_rA rfl rfl rfl rfl) ?_)
   | (refine xK 16 rfl ?_; first
    | refine Cx.ef0 0 rfl rfl (a_st rfl rfl rfl rfl) ?_
    | refine Cx.ef0 1 rfl rfl (a_st rfl rfl rfl rfl) ?_
    | refine Cx.ef0 2 rfl rfl (a_st rfl rfl rfl rfl) ?_
    | refine Cx.ef0 3 rfl rfl (a_st rfl rfl rfl rfl) ?_))
 exact k.k) : H := h ⟨k⟩
theorem Ch.cg {l : List Oper} {b v : Bool} {g j : Nat} {pt pf : Prop} [ht : Nrm b true pt] [hf : Nrm b false pf] (_ : o.guard = some (j, v)) (_ : (ops[j]?.bind (·.dst)) = some g) (hb : E.lookup g = some (bool b)) (k : b = true → pt → Ch P n I ops (o :: l) E K) (k' : b = false → pf → Ch P n I ops (o :: l) E K) : Ch P n I ops (o :: l) E K := Ch.cases g hb (fun h => k h (ht.nrm h)) (fun h => k' h (hf.nrm h))
/-- Two, three in a row; then a fork. -/
theorem a2 {G H : Prop} (k : G) (h : Lt_ G → H := by
 intro k
 iterate 2 refine ac ?_
 exact k.k) : H := h ⟨k⟩
theorem a3 {G H : Prop} (k : G) (h : Lt_ G → H := by
 intro k
 iterate 3 refine ac ?_
 exact k.k) : H := h ⟨k⟩
theorem an {G L H : Prop} (k : G) (l : L) (h : Lt_ G → Lt_ L → H := by
 intro k l
 refine ac ?_
 refine Tr.cn rfl ?_ ?_
 exact k.k
 exact l.k) : H := h ⟨k⟩ ⟨l⟩
theorem ag {G L H : Prop} (k : G) (l : L) (h : Lt_ G → Lt_ L → H := by
 intro k l
 refine ac ?_
 refine Ch.cg rfl rfl rfl ?_ ?_
 exact k.k
 exact l.k) : H := h ⟨k⟩ ⟨l⟩
theorem Lr {p : Pr} : Pr.le p p := Pr.le_refl p
theorem Vo {p : Pr} [One p] (h : Val E x = some p) : VL E x (cellsP [p]) := VL.le (vl h) (one_cellsP p)
theorem Va {ps : List Pr} (h : Val E x = some (agg ps)) : VL E x (cellsP ps) := VL.le (vl h) (agg_cellsP ps)
theorem Nb {a b : Nat} (h : Nat.ble a b = true) : a ≤ b := Nat.le_of_ble_eq_true h
theorem Kf {z : Nat} {l : List (List Pr)} (h : Val E x = some (full z l)) : VL E x (slice z l) := ⟨_, h, full_le z l⟩
theorem Ka {v : Value} (h : Val E x = some (andIs v p)) : VL E x (is v) := ⟨_, h, andIs_is v p⟩
theorem Kb {v : Value} (h : Val E x = some (andIs v p)) : VL E x p := ⟨_, h, andIs_le v p⟩
theorem Tl {M0 : Av} {w0 : World} {S : Nat → Prop} {rs : List Res} {T : TypeId} {zs : List Value} (hg : o.guard = none) (hd : o.dst = some d) (hn : Nat.blt d n = true) (ho : o.op = .alloc T) (hz : zeroB P T = some zs) (h1' : zs.all (·.oneCell') = true)
  (k : ∀ b, TO P n ops r ((d, is (.pointer (some ⟨b, 0, none⟩))) :: E) (Hp M0 w0 S (cellsRes true b T (zs.map is) :: rs)) Q) : TO P n ops (o :: r) E (Hp M0 w0 S rs) Q := TO.alloc hg hd (blt_lt hn) ho hz h1' k
theorem eApp {M0 : Av} {w0 : World} {S : Nat → Prop} {t e : TypeId} {sz bytes : Nat} {zs : List Value} {rows rows' : List (List Pr)} {R : SR} (hg : o.guard = none) (hd : o.dst = some d) (hn : Nat.blt d n = true) (ho : o.op = .call { callee := .builtin .append, args := #[x, y], argTypes := #[t, t] })
  (ht : P.underlying t = some (.slice e)) (hz : sizeB P e = some sz) (hby : bytesB P e = some bytes) (hze : zeroB P e = some zs) (hx : VL E x (slice sz rows)) (hy : VL E y (slice sz rows'))
  (hR : ∀ M w (a : Act), EnvFor M w E o a → R.at_ a = appRes e sz (a.eval x) ∨ (R.at_ a = noRes ∧ appBlk (a.eval x) = none)) (hzl : zs.length = sz := by rfl) (hsz : Nat.blt 0 sz = true := by rfl)
  (hmax : rows.length + rows'.length ≤ maxLen := by simp only [List.length_map, List.length_append, List.length_cons, List.length_nil, List.length_replicate, List.length_take, List.length_drop]; unfold maxLen; omega) (hfit : (rows.length + rows'.length) * bytes ≤ 140737488355328 := by simp only [List.length_map, List.length_append, List.length_cons, List.length_nil, List.length_replicate, List.length_take, List.length_drop]; omega) : OpEf P M0 w0 S n j R ⟨d, appRes e sz⟩ o E (slice sz (rows ++ rows')) := ef_append hg hd (blt_lt hn) ho ht hz hby hze hzl (blt_lt hsz) hx hy hmax hfit hR
end
end Cp
namespace Go.Proofs.YtppeeogffbpcbaaGreat
open Go Cp
instance i_mixed : TM Tryz.prog := ⟨mixed⟩
instance i_z3 : TV Tryz.prog 3 [.int .i64 0] := ⟨z3, zo3⟩
instance i_one3 : T1 Tryz.prog 3 := ⟨one3⟩
instance i_sz3 : TZ Tryz.prog 3 1 := ⟨sz3⟩
instance i_one4 : T1 Tryz.prog 4 := ⟨one4⟩
instance i_sz4 : TZ Tryz.prog 4 1 := ⟨sz4⟩
instance i_underlying4 : TU Tryz.prog 4 .bool := ⟨Tryz.underlying4⟩
instance i_z5 : TV Tryz.prog 5 [.int .u8 0] := ⟨z5, zo5⟩
instance i_one5 : T1 Tryz.prog 5 := ⟨one5⟩
instance i_sz5 : TZ Tryz.prog 5 1 := ⟨sz5⟩
instance i_z9 : TV Tryz.prog 9 [.string (ByteArray.mk #[])] := ⟨z9, zo9⟩
instance i_one9 : T1 Tryz.prog 9 := ⟨one9⟩
instance i_sz9 : TZ Tryz.prog 9 1 := ⟨sz9⟩
instance i_underlying9 : TU Tryz.prog 9 .string := ⟨Tryz.underlying9⟩
instance i_one22 : T1 Tryz.prog 22 := ⟨one22⟩
instance i_sz22 : TZ Tryz.prog 22 1 := ⟨sz22⟩
instance i_underlying22 : TU Tryz.prog 22 (.slice 3) := ⟨Tryz.underlying22⟩
instance i_bl24 : TB Tryz.prog 24 (fun i => (#[(0, 1), (1, 1)] : Array (Nat × Nat))[i]?) (List.replicate 2 (.int .i64 0)) := ⟨bl24, zo24⟩
instance i_agg24 : TA Tryz.prog 24 := ⟨agg24⟩
instance i_sz24 : TZ Tryz.prog 24 2 := ⟨sz24⟩
instance i_fo24_0 : TF Tryz.prog 24 0 0 := ⟨fo24_0⟩
instance i_fo24_1 : TF Tryz.prog 24 1 1 := ⟨fo24_1⟩
instance i_one25 : T1 Tryz.prog 25 := ⟨one25⟩
instance i_sz25 : TZ Tryz.prog 25 1 := ⟨sz25⟩
instance i_underlying25 : TU Tryz.prog 25 (.slice 131) := ⟨Tryz.underlying25⟩
instance i_bl27 : TB Tryz.prog 27 (fun i => (#[(0, 2), (2, 1), (3, 1)] : Array (Nat × Nat))[i]?) [.int .i64 0, .int .i64 0, .int .i64 0, .slice none 0 0] := ⟨bl27, zo27⟩
instance i_z27 : TV Tryz.prog 27 [.int .i64 0, .int .i64 0, .int .i64 0, .slice none 0 0] := ⟨z27, zo27⟩
instance i_agg27 : TA Tryz.prog 27 := ⟨agg27⟩
instance i_sz27 : TZ Tryz.prog 27 4 := ⟨sz27⟩
instance i_fo27_0 : TF Tryz.prog 27 0 0 := ⟨fo27_0⟩
instance i_fo27_1 : TF Tryz.prog 27 1 2 := ⟨fo27_1⟩
instance i_fo27_2 : TF Tryz.prog 27 2 3 := ⟨fo27_2⟩
instance i_bl29 : TB Tryz.prog 29 (fun i => (#[(0, 1), (1, 1), (2, 1), (3, 1), (4, 4)] : Array (Nat × Nat))[i]?) [.int .i64 0, .int .i64 0, .int .i64 0, .int .i64 0, .int .i64 0, .int .i64 0, .int .i64 0, .slice none 0 0] := ⟨bl29, zo29⟩
instance i_agg29 : TA Tryz.prog 29 := ⟨agg29⟩
instance i_sz29 : TZ Tryz.prog 29 8 := ⟨sz29⟩
instance i_fo29_0 : TF Tryz.prog 29 0 0 := ⟨fo29_0⟩
instance i_fo29_1 : TF Tryz.prog 29 1 1 := ⟨fo29_1⟩
instance i_fo29_2 : TF Tryz.prog 29 2 2 := ⟨fo29_2⟩
instance i_fo29_3 : TF Tryz.prog 29 3 3 := ⟨fo29_3⟩
instance i_fo29_4 : TF Tryz.prog 29 4 4 := ⟨fo29_4⟩
instance i_one30 : T1 Tryz.prog 30 := ⟨one30⟩
instance i_sz30 : TZ Tryz.prog 30 1 := ⟨sz30⟩
instance i_underlying30 : TU Tryz.prog 30 (.slice 27) := ⟨Tryz.underlying30⟩
instance i_bl32 : TB Tryz.prog 32 (fun i => (#[(0, 1), (1, 1), (2, 1), (3, 1), (4, 1), (5, 1), (6, 1), (7, 1), (8, 1)] : Array (Nat × Nat))[i]?) [.string (ByteArray.mk #[]), .int .i64 0, .int .i64 0, .slice none 0 0, .bool false, .slice none 0 0, .slice none 0 0, .slice none 0 0, .bool false] := ⟨bl32, zo32⟩
instance i_z32 : TV Tryz.prog 32 [.string (ByteArray.mk #[]), .int .i64 0, .int .i64 0, .slice none 0 0, .bool false, .slice none 0 0, .slice none 0 0, .slice none 0 0, .bool false] := ⟨z32, zo32⟩
instance i_agg32 : TA Tryz.prog 32 := ⟨agg32⟩
instance i_sz32 : TZ Tryz.prog 32 9 := ⟨sz32⟩
instance i_fo32_0 : TF Tryz.prog 32 0 0 := ⟨fo32_0⟩
instance i_fo32_1 : TF Tryz.prog 32 1 1 := ⟨fo32_1⟩
instance i_fo32_2 : TF Tryz.prog 32 2 2 := ⟨fo32_2⟩
instance i_fo32_3 : TF Tryz.prog 32 3 3 := ⟨fo32_3⟩
instance i_fo32_4 : TF Tryz.prog 32 4 4 := ⟨fo32_4⟩
instance i_fo32_5 : TF Tryz.prog 32 5 5 := ⟨fo32_5⟩
instance i_fo32_6 : TF Tryz.prog 32 6 6 := ⟨fo32_6⟩
instance i_fo32_7 : TF Tryz.prog 32 7 7 := ⟨fo32_7⟩
instance i_fo32_8 : TF Tryz.prog 32 8 8 := ⟨fo32_8⟩
instance i_one37 : T1 Tryz.prog 37 := ⟨one37⟩
instance i_sz37 : TZ Tryz.prog 37 1 := ⟨sz37⟩
instance i_underlying37 : TU Tryz.prog 37 (.slice 32) := ⟨Tryz.underlying37⟩
instance i_fo41_0 : TF Tryz.prog 41 0 0 := ⟨fo41_0⟩
instance i_one66 : T1 Tryz.prog 66 := ⟨one66⟩
instance i_one74 : T1 Tryz.prog 74 := ⟨one74⟩
instance i_sz74 : TZ Tryz.prog 74 1 := ⟨sz74⟩
instance i_underlying74 : TU Tryz.prog 74 (.slice 9) := ⟨Tryz.underlying74⟩
instance i_bl82 : TB Tryz.prog 82 (fun i => (#[(0, 9), (9, 1)] : Array (Nat × Nat))[i]?) [.string (ByteArray.mk #[]), .int .i64 0, .int .i64 0, .slice none 0 0, .bool false, .slice none 0 0, .slice none 0 0, .slice none 0 0, .bool false, .slice none 0 0] := ⟨bl82, zo82⟩
instance i_agg82 : TA Tryz.prog 82 := ⟨agg82⟩
instance i_sz82 : TZ Tryz.prog 82 10 := ⟨sz82⟩
instance i_fo82_0 : TF Tryz.prog 82 0 0 := ⟨fo82_0⟩
instance i_fo82_1 : TF Tryz.prog 82 1 9 := ⟨fo82_1⟩
instance i_one92 : T1 Tryz.prog 92 := ⟨one92⟩
instance i_underlying92 : TU Tryz.prog 92 (.slice 96) := ⟨Tryz.underlying92⟩
instance i_z96 : TV Tryz.prog 96 [.int .i64 0, .string (ByteArray.mk #[]), .int .i64 0, .int .i64 0, .int .i64 0, .int .i64 0, .string (ByteArray.mk #[]), .int .i64 0, .int .i64 0, .int .i64 0, .string (ByteArray.mk #[])] := ⟨z96, zo96⟩
instance i_agg96 : TA Tryz.prog 96 := ⟨agg96⟩
instance i_sz96 : TZ Tryz.prog 96 11 := ⟨sz96⟩
instance i_fo96_0 : TF Tryz.prog 96 0 0 := ⟨fo96_0⟩
instance i_fo96_1 : TF Tryz.prog 96 1 1 := ⟨fo96_1⟩
instance i_fo96_2 : TF Tryz.prog 96 2 2 := ⟨fo96_2⟩
instance i_fo96_3 : TF Tryz.prog 96 3 3 := ⟨fo96_3⟩
instance i_fo96_4 : TF Tryz.prog 96 4 4 := ⟨fo96_4⟩
instance i_fo96_5 : TF Tryz.prog 96 5 5 := ⟨fo96_5⟩
instance i_fo96_6 : TF Tryz.prog 96 6 6 := ⟨fo96_6⟩
instance i_fo96_7 : TF Tryz.prog 96 7 7 := ⟨fo96_7⟩
instance i_fo96_8 : TF Tryz.prog 96 8 9 := ⟨fo96_8⟩
instance i_fo96_9 : TF Tryz.prog 96 9 10 := ⟨fo96_9⟩
instance i_bl101 : TB Tryz.prog 101 (fun i => (#[(0, 1), (1, 1)] : Array (Nat × Nat))[i]?) [.slice none 0 0, .int .i64 0] := ⟨bl101, zo101⟩
instance i_fo101_0 : TF Tryz.prog 101 0 0 := ⟨fo101_0⟩
instance i_fo101_1 : TF Tryz.prog 101 1 1 := ⟨fo101_1⟩
instance i_agg129 : TA Tryz.prog 129 := ⟨agg129⟩
instance i_sz129 : TZ Tryz.prog 129 2 := ⟨sz129⟩
instance i_fo129_0 : TF Tryz.prog 129 0 0 := ⟨fo129_0⟩
instance i_fo129_1 : TF Tryz.prog 129 1 1 := ⟨fo129_1⟩
instance i_z131 : TV Tryz.prog 131 [.int .i64 0, .string (ByteArray.mk #[]), .string (ByteArray.mk #[]), .int .i64 0, .int .i64 0, .int .i64 0, .int .i64 0, .int .i64 0, .int .i64 0, .int .i64 0, .bool false, .int .i64 0, .slice none 0 0, .int .i64 0, .int .i64 0] := ⟨z131, zo131⟩
instance i_agg131 : TA Tryz.prog 131 := ⟨agg131⟩
instance i_sz131 : TZ Tryz.prog 131 15 := ⟨sz131⟩
instance i_fo131_0 : TF Tryz.prog 131 0 0 := ⟨fo131_0⟩
instance i_fo131_1 : TF Tryz.prog 131 1 1 := ⟨fo131_1⟩
instance i_fo131_10 : TF Tryz.prog 131 10 12 := ⟨fo131_10⟩
instance i_fo131_11 : TF Tryz.prog 131 11 13 := ⟨fo131_11⟩
instance i_fo131_2 : TF Tryz.prog 131 2 2 := ⟨fo131_2⟩
instance i_fo131_3 : TF Tryz.prog 131 3 3 := ⟨fo131_3⟩
instance i_fo131_4 : TF Tryz.prog 131 4 5 := ⟨fo131_4⟩
instance i_fo131_5 : TF Tryz.prog 131 5 6 := ⟨fo131_5⟩
instance i_fo131_6 : TF Tryz.prog 131 6 8 := ⟨fo131_6⟩
instance i_fo131_7 : TF Tryz.prog 131 7 9 := ⟨fo131_7⟩
instance i_fo131_8 : TF Tryz.prog 131 8 10 := ⟨fo131_8⟩
instance i_fo131_9 : TF Tryz.prog 131 9 11 := ⟨fo131_9⟩
instance i_one156 : T1 Tryz.prog 156 := ⟨one156⟩
instance i_one157 : T1 Tryz.prog 157 := ⟨one157⟩
instance i_bl159 : TB Tryz.prog 159 (fun i => (#[(0, 1), (1, 8), (9, 8)] : Array (Nat × Nat))[i]?) [.pointer none, .int .i64 0, .int .i64 0, .int .i64 0, .int .i64 0, .int .i64 0, .int .i64 0, .int .i64 0, .slice none 0 0, .int .i64 0, .int .i64 0, .int .i64 0, .int .i64 0, .int .i64 0, .int .i64 0, .int .i64 0, .slice none 0 0] := ⟨bl159, zo159⟩
instance i_fo159_0 : TF Tryz.prog 159 0 0 := ⟨fo159_0⟩
instance i_fo159_1 : TF Tryz.prog 159 1 1 := ⟨fo159_1⟩
instance i_fo159_2 : TF Tryz.prog 159 2 9 := ⟨fo159_2⟩
instance i_bl161 : TB Tryz.prog 161 (fun i => some (i * 1, 1)) (List.replicate 13 (.nilFunc)) := ⟨bl161, zo161⟩
instance i_sz161 : TZ Tryz.prog 161 13 := ⟨sz161⟩
instance i_bl170 : TB Tryz.prog 170 (fun i => (#[(0, 1), (1, 1), (2, 2), (4, 2), (6, 2), (8, 2), (10, 1), (11, 1)] : Array (Nat × Nat))[i]?) [.int .i64 0, .string (ByteArray.mk #[]), .int .i64 0, .int .i64 0, .int .i64 0, .int .i64 0, .int .i64 0, .int .i64 0, .int .i64 0, .int .i64 0, .int .i64 0, .int .i64 0] := ⟨bl170, zo170⟩
instance i_agg170 : TA Tryz.prog 170 := ⟨agg170⟩
instance i_sz170 : TZ Tryz.prog 170 12 := ⟨sz170⟩
instance i_fo191_0 : TF Tryz.prog 191 0 0 := ⟨fo191_0⟩
instance i_fo191_1 : TF Tryz.prog 191 1 11 := ⟨fo191_1⟩
instance i_one198 : T1 Tryz.prog 198 := ⟨one198⟩
instance i_underlying198 : TU Tryz.prog 198 (.slice 5) := ⟨Tryz.underlying198⟩
instance i_bl209 : TB Tryz.prog 209 (fun i => (#[(0, 1), (1, 1)] : Array (Nat × Nat))[i]?) [.string (ByteArray.mk #[]), .int .i64 0] := ⟨bl209, zo209⟩
instance i_z209 : TV Tryz.prog 209 [.string (ByteArray.mk #[]), .int .i64 0] := ⟨z209, zo209⟩
instance i_sz209 : TZ Tryz.prog 209 2 := ⟨sz209⟩
instance i_fo209_1 : TF Tryz.prog 209 1 1 := ⟨fo209_1⟩
instance i_underlying210 : TU Tryz.prog 210 (.slice 209) := ⟨Tryz.underlying210⟩
instance i_one221 : T1 Tryz.prog 221 := ⟨one221⟩
instance i_bl223 : TB Tryz.prog 223 (fun i => (#[(0, 1), (1, 1), (2, 1), (3, 1)] : Array (Nat × Nat))[i]?) [.int .i64 0, .slice none 0 0, .bool false, .slice none 0 0] := ⟨bl223, zo223⟩
instance i_agg223 : TA Tryz.prog 223 := ⟨agg223⟩
instance i_sz223 : TZ Tryz.prog 223 4 := ⟨sz223⟩
instance i_fo223_0 : TF Tryz.prog 223 0 0 := ⟨fo223_0⟩
instance i_fo223_1 : TF Tryz.prog 223 1 1 := ⟨fo223_1⟩
instance i_fo223_2 : TF Tryz.prog 223 2 2 := ⟨fo223_2⟩
instance i_fo223_3 : TF Tryz.prog 223 3 3 := ⟨fo223_3⟩
instance i_bl244 : TB Tryz.prog 244 (fun i => (#[(0, 1), (1, 1), (2, 1), (3, 1), (4, 1)] : Array (Nat × Nat))[i]?) [.string (ByteArray.mk #[]), .int .i64 0, .int .i64 0, .slice none 0 0, .slice none 0 0] := ⟨bl244, zo244⟩
instance i_sz244 : TZ Tryz.prog 244 5 := ⟨sz244⟩
instance i_fo244_1 : TF Tryz.prog 244 1 1 := ⟨fo244_1⟩
instance i_fo244_2 : TF Tryz.prog 244 2 2 := ⟨fo244_2⟩
instance i_fo244_3 : TF Tryz.prog 244 3 3 := ⟨fo244_3⟩
instance i_fo244_4 : TF Tryz.prog 244 4 4 := ⟨fo244_4⟩
instance i_one252 : T1 Tryz.prog 252 := ⟨one252⟩
instance i_one253 : T1 Tryz.prog 253 := ⟨one253⟩
instance i_one255 : T1 Tryz.prog 255 := ⟨one255⟩
instance i_bl272 : TB Tryz.prog 272 (fun i => some (i * 5, 5)) [.string (ByteArray.mk #[]), .int .i64 0, .int .i64 0, .slice none 0 0, .slice none 0 0, .string (ByteArray.mk #[]), .int .i64 0, .int .i64 0, .slice none 0 0, .slice none 0 0, .string (ByteArray.mk #[]), .int .i64 0, .int .i64 0, .slice none 0 0, .slice none 0 0, .string (ByteArray.mk #[]), .int .i64 0, .int .i64 0, .slice none 0 0, .slice none 0 0, .string (ByteArray.mk #[]), .int .i64 0, .int .i64 0, .slice none 0 0, .slice none 0 0, .string (ByteArray.mk #[]), .int .i64 0, .int .i64 0, .slice none 0 0, .slice none 0 0, .string (ByteArray.mk #[]), .int .i64 0, .int .i64 0, .slice none 0 0, .slice none 0 0, .string (ByteArray.mk #[]), .int .i64 0, .int .i64 0, .slice none 0 0, .slice none 0 0, .string (ByteArray.mk #[]), .int .i64 0, .int .i64 0, .slice none 0 0, .slice none 0 0, .string (ByteArray.mk #[]), .int .i64 0, .int .i64 0, .slice none 0 0, .slice none 0 0, .string (ByteArray.mk #[]), .int .i64 0, .int .i64 0, .slice none 0 0, .slice none 0 0, .string (ByteArray.mk #[]), .int .i64 0, .int .i64 0, .slice none 0 0, .slice none 0 0, .string (ByteArray.mk #[]), .int .i64 0, .int .i64 0, .slice none 0 0, .slice none 0 0, .string (ByteArray.mk #[]), .int .i64 0, .int .i64 0, .slice none 0 0, .slice none 0 0, .string (ByteArray.mk #[]), .int .i64 0, .int .i64 0, .slice none 0 0, .slice none 0 0, .string (ByteArray.mk #[]), .int .i64 0, .int .i64 0, .slice none 0 0, .slice none 0 0, .string (ByteArray.mk #[]), .int .i64 0, .int .i64 0, .slice none 0 0, .slice none 0 0, .string (ByteArray.mk #[]), .int .i64 0, .int .i64 0, .slice none 0 0, .slice none 0 0, .string (ByteArray.mk #[]), .int .i64 0, .int .i64 0, .slice none 0 0, .slice none 0 0, .string (ByteArray.mk #[]), .int .i64 0, .int .i64 0, .slice none 0 0, .slice none 0 0, .string (ByteArray.mk #[]), .int .i64 0, .int .i64 0, .slice none 0 0, .slice none 0 0, .string (ByteArray.mk #[]), .int .i64 0, .int .i64 0, .slice none 0 0, .slice none 0 0, .string (ByteArray.mk #[]), .int .i64 0, .int .i64 0, .slice none 0 0, .slice none 0 0] := ⟨bl272, zo272⟩
instance i_sz272 : TZ Tryz.prog 272 115 := ⟨sz272⟩
instance i_bl292 : TB Tryz.prog 292 (fun i => some (i * 1, 1)) (List.replicate 2 (.int .i64 0)) := ⟨bl292, zo292⟩
instance i_sz292 : TZ Tryz.prog 292 2 := ⟨sz292⟩
instance i_bl293 : TB Tryz.prog 293 (fun i => some (i * 2, 2)) (List.replicate 10 (.int .i64 0)) := ⟨bl293, zo293⟩
instance i_one294 : T1 Tryz.prog 294 := ⟨one294⟩
instance i_sz294 : TZ Tryz.prog 294 1 := ⟨sz294⟩
end Go.Proofs.YtppeeogffbpcbaaGreat
namespace Go.Proofs.YtppeeogffbpcbaaGreat
open Go Go.RowKit Cp Go.Proofs.Tryz
abbrev ints (l : List Int) : Pr := slice 1 (l.map fun n => [int n])

/-- The index of the first that p takes, -1 for none. -/
def idx {β : Type} (p : β → Bool) (l : List β) : Int := match l.findIdx? p with | some i => i | none => -1
theorem idx_found {β : Type} {p : β → Bool} {l : List β} {k : Nat} {x : β} (hx : l[k]? = some x) (hp : p x = true) (h : ∀ j y, j < k → l[j]? = some y → p y = false) : (k : Int) = idx p l := by
 have : l.findIdx? p = some k := by
  rw [List.findIdx?_eq_some_iff_getElem]
  have hk : k < l.length := by rcases Nat.lt_or_ge k l.length with h | h; exact h; rw [List.getElem?_eq_none h] at hx; cases hx
  rw [List.getElem?_eq_getElem hk] at hx
  simp only [Option.some.injEq] at hx
  refine ⟨hk, by rw [hx]; exact hp, fun j hj => ?_⟩
  simpa using h j _ hj (List.getElem?_eq_getElem (by omega))
 unfold idx; rw [this]
theorem idx_none {β : Type} {p : β → Bool} {l : List β} (h : ∀ j y, j < l.length → l[j]? = some y → p y = false) : (-1 : Int) = idx p l := by
 have : l.findIdx? p = none := by
  rw [List.findIdx?_eq_none_iff]
  intro x hx
  obtain ⟨j, hj, rfl⟩ := List.mem_iff_getElem.1 hx
  exact h j _ hj (List.getElem?_eq_getElem hj)
 unfold idx; rw [this]
theorem idx_any {β : Type} (p : β → Bool) (l : List β) : decide (idx p l ≥ 0) = l.any p := by
 unfold idx
 cases h : l.findIdx? p with
 | none => rw [List.findIdx?_eq_none_iff] at h; simp; intro x hx; simpa using h x hx
 | some i =>
  rw [List.findIdx?_eq_some_iff_getElem] at h
  obtain ⟨h1, h2, _⟩ := h
  simp
  exact ⟨_, List.getElem_mem h1, h2⟩
theorem step_no {β : Type} {p : β → Bool} {l : List β} {k : Nat} {x : β} (hx : l[k]? = some x) (hp : p x = false) (h : ∀ j y, j < k → l[j]? = some y → p y = false) : ∀ j y, j < k + 1 → l[j]? = some y → p y = false := by
 intro j y hj hy
 by_cases hjk : j = k
 · subst hjk; rw [hx] at hy; cases hy; exact hp
 · exact h j y (by omega) hy

theorem w_IndexFuncI {l : List Int} {p : Int → Bool}  : Fun prog 193 [ints l, clo prog (fun x : Int => [int x]) (fun x => bool (p x))] (int (idx p l)) := by
 refine fo func193 rfl ⟨rfl, rfl⟩ fun M0 w0 => (Tr.lenm 0 rfl fun hlm_0 => ?_)
 refine a2 ?_
 refine Tr.block (Tr.loopw [(0, _), (1, _), (7, _)] (kk3 rfl) (fun k : Nat => [(8, int ((k : Nat) : Int))]) (fun k : Nat => k ≤ (l).length ∧ (∀ j y, j < k → l[j]? = some y → p y = false)) (fun k : Nat => (l).length - k) 0 (⟨Nat.zero_le _, fun j y hj => absurd hj (by omega)⟩) ⟨ke rfl, trivial⟩ ?_)
 rintro k ⟨hle_k, hinv_k⟩
 refine ac ?_
 refine Tr.seq ?_
 refine Tr.cn rfl ?_ ?_ <;> intro h1 q1
 have hk_k : k < (l).length := lt_of_dec h1
 obtain ⟨x, hx_k⟩ := at_ hk_k
 · repeat' first | exact int_eq (idx_found hx_k (by assumption) hinv_k) | exact Fin.fam_same (k + 1) ⟨⟨hk_k, step_no hx_k (by assumption) hinv_k⟩, by omega⟩ ⟨⟨_, rfl, int_succ k⟩, ke rfl, ke rfl, ke rfl, trivial⟩ | refine co rfl (ok_indexAddr rfl underlying22 sz3 (vl rfl) (vl rfl) (by omega) (by exact row_at (by assumption))) ?_ | refine co rfl (kl1 rfl one3 rfl) (co rfl (ok_callc x rfl (vl rfl) ⟨ke rfl, trivial⟩) ?_) | refine ac ?_ | (refine Tr.cn rfl ?_ ?_ <;> intro h q)
 have he_k : k = (l).length := by have := ge_of_dec h1; omega
 subst he_k
 refine a3 ?_
 · exact int_eq (idx_none hinv_k)
theorem w_ContainsFuncI {l : List Int} {p : Int → Bool}  : Fun prog 148 [ints l, clo prog (fun x : Int => [int x]) (fun x => bool (p x))] (bool (l.any p)) := by
 refine fo func148 rfl ⟨rfl, rfl⟩ fun M0 w0 => ?_
 refine a2 ?_
 refine co rfl (kc2 (w_IndexFuncI) rfl rfl rfl) ?_
 refine a2 ?_
 · exact bool_eq (idx_any p l)
theorem w_IndexI {l : List Int} {v : Int}  : Fun prog 207 [ints l, int v] (int (idx (fun x => v == x) l)) := by
 refine fo func207 rfl ⟨rfl, rfl⟩ fun M0 w0 => (Tr.lenm 0 rfl fun hlm_0 => ?_)
 refine a2 ?_
 refine Tr.block (Tr.loopw [(0, _), (1, _), (7, _)] (kk3 rfl) (fun k : Nat => [(8, int ((k : Nat) : Int))]) (fun k : Nat => k ≤ (l).length ∧ (∀ j y, j < k → l[j]? = some y → (v == y) = false)) (fun k : Nat => (l).length - k) 0 (⟨Nat.zero_le _, fun j y hj => absurd hj (by omega)⟩) ⟨ke rfl, trivial⟩ ?_)
 rintro k ⟨hle_k, hinv_k⟩
 refine ac ?_
 refine Tr.seq ?_
 refine Tr.cn rfl ?_ ?_ <;> intro h1 q1
 have hk_k : k < (l).length := lt_of_dec h1
 obtain ⟨x, hx_k⟩ := at_ hk_k
 · repeat' first | exact int_eq (idx_found (p := fun x => v == x) hx_k (by assumption) hinv_k) | exact Fin.fam_same (k + 1) ⟨⟨hk_k, step_no (p := fun x => v == x) hx_k (by assumption) hinv_k⟩, by omega⟩ ⟨⟨_, rfl, int_succ k⟩, ke rfl, ke rfl, ke rfl, trivial⟩ | refine co rfl (ok_indexAddr rfl underlying22 sz3 (vl rfl) (vl rfl) (by omega) (by exact row_at (by assumption))) ?_ | refine ac ?_ | (refine Tr.cn rfl ?_ ?_ <;> intro h q)
 have he_k : k = (l).length := by have := ge_of_dec h1; omega
 subst he_k
 refine a3 ?_
 · exact int_eq (idx_none hinv_k)
theorem w_ContainsI {l : List Int} {v : Int}  : Fun prog 190 [ints l, int v] (bool (l.any fun x => v == x)) := by
 refine fo func190 rfl ⟨rfl, rfl⟩ fun M0 w0 => ?_
 refine a2 ?_
 refine co rfl (kc2 (w_IndexI) rfl rfl rfl) ?_
 refine a2 ?_
 · exact bool_eq (idx_any _ l)
end Go.Proofs.YtppeeogffbpcbaaGreat
namespace Go.Proofs.YtppeeogffbpcbaaGreat
open Go Go.RowKit Cp Go.ChangeShapes Go.WideShapes Go.ChangeAt Go.Proofs.Tryz
theorem own0 : ownKnob Tryz.prog.godebug = none := by kernel_rfl
theorem laidOut0 : laidOutB Tryz.prog = true := by kernel_rfl
theorem u8_in {n : Int} (h : (Lit.int .u8 n).wf = true) : 0 ≤ n ∧ n < 256 := by
 simp only [Lit.wf, Bool.and_eq_true, decide_eq_true_eq] at h
 have h1 : IntKind.u8.min = 0 := rfl
 have h2 : IntKind.u8.max = 255 := rfl
 omega
theorem i64_in {n : Int} (h : (Lit.int .i64 n).wf = true) : InI n := by
 simp only [Lit.wf, Bool.and_eq_true, decide_eq_true_eq] at h
 have h1 : IntKind.i64.min = -9223372036854775808 := rfl
 have h2 : IntKind.i64.max = 9223372036854775807 := rfl
 unfold InI; omega
theorem opens_ints {P : Program} {t e : TypeId} (ht : P.underlying t = some (.slice e)) (he : P.underlying e = some (.int .i64)) (hc : P.cellsOf e = 1) : Opens P t (fun l : List Int => l.length ≤ maxLen ∧ ∀ n ∈ l, InI n) (fun l => [ints l]) :=
 (opens_slice ht hc (opens_int he)).map id (fun _ h => ⟨h.2, fun n hn => i64_in (h.1 n hn)⟩) (fun _ => rfl)
end Go.Proofs.YtppeeogffbpcbaaGreat
namespace Go.Proofs.YtppeeogffbpcbaaGreat
open Go Go.RowKit Cp Go.Proofs.Tryz
abbrev diceS (b : Nat) (s : DS) : Res := diceR 101 b s
theorem mod_pos (n : Int) {k : Int} (hk : 1 ≤ k) : (n.tmod k + k).tmod k = n % k := by
 have h1 : -k < n.tmod k := by have := Int.lt_tmod_of_pos n (b := k) (by omega); omega
 rw [Int.tmod_eq_emod_of_nonneg (by omega), Int.tmod_def, show n - k * n.tdiv k + k = n + k * (1 - n.tdiv k) by rw [Int.mul_sub]; omega, Int.add_mul_emod_self_left]
theorem mod_in (n : Int) {k : Int} (hk : 1 ≤ k) : -k < n.tmod k ∧ n.tmod k < k := by
 have h1 := Int.lt_tmod_of_pos n (b := k) (by omega)
 have h2 := Int.tmod_lt_of_pos n (b := k) (by omega)
 omega

theorem w_Light {l : List Int}  : Fun prog 10 [ints l] (bool (decide (l.length ≤ 400))) := by
 refine fo func10 rfl ⟨rfl, rfl⟩ fun M0 w0 => ?_
 refine a3 ?_
 · refine bool_eq ?_; simp_all; omega
theorem w_Mod {n k : Int} (hk : 1 ≤ k) (hk2 : k ≤ 1000000000) : Fun prog 104 [int n, int k] (int (n % k)) := by
 refine fo func104 rfl ⟨rfl, rfl⟩ fun M0 w0 => ?_
 have hm := mod_in n hk
 have hp := mod_pos n hk
 · repeat' first | (exfalso; omega) | (refine int_eq ?_; exact hp) | refine co rfl (ok_rem rfl (vl rfl) (vl rfl) (by omega)) ?_ | refine ac ?_ | (refine Tr.cn rfl ?_ ?_ <;> intro h q)
theorem w_DNext {b : Nat} {s : DS} {n : Int} (hn : 1 ≤ n) (hn2 : n ≤ 1000000000) : FunM prog 52 [ptr b 0, int n] (int (s.val n)) (diceS b s) (fun _ => diceS b s.adv) := by
 refine FunM.of func52 rfl rfl (by exact Nb rfl) fun M0 w0 S rs M1 w1 => ?_
 have hs := s.h
 have hs2 := s.h2
 refine ac ?_
 refine an ?_ ?_ <;> intro h1 q1
 refine ac ?_
 refine Tr.ret (Fin.then_ret ?_)
 rw [DS.adv_end (s := s) (by omega)]
 refine Fin.retY1 [] rfl (RVal.tmp rfl (Lr)) ?_ (fun _ _ _ _ => rfl)
 · refine int_eq ?_; exact (DS.val_end (by omega) n).symm
 have hlt : s.at_ < s.l.length := by omega
 obtain ⟨x, hx⟩ := at_ hlt
 refine ac ?_
 refine ap ?_
 refine wk2 0 1 rfl ?_
 refine ac ?_
 refine co rfl (ok_indexAddr rfl underlying22 sz3 (vl rfl) (vl rfl) (by omega) (by rw [show ((s.at_ : Nat) : Int) + 1 - 1 = ((s.at_ : Nat) : Int) by omega]; exact row_at hx)) ?_
 refine ac ?_
 refine co rfl (kc2 (w_Mod (by omega) (by omega)) rfl rfl rfl) ?_
 refine ac ?_
 refine wk1 4 rfl (Tr.ret ?_)
 rw [DS.adv_at hlt]
 refine Fin.retY1 [] rfl (RVal.tmp rfl (Lr)) ?_ (fun _ _ _ _ => rfl)
 · refine int_eq ?_; exact (DS.val_at hx n).symm
theorem w_DOf {b : Nat} {s : DS} {l : List Int} (hl : l ≠ []) (hl2 : l.length ≤ 1000000000) : FunM prog 59 [ptr b 0, ints l] (int (s.of l)) (diceS b s) (fun _ => diceS b s.adv) := by
 refine FunM.of func59 rfl rfl (by exact Nb rfl) fun M0 w0 S rs M1 w1 => ?_
 have hl0 : 1 ≤ (l.length : Int) := by have := List.length_pos_iff.2 hl; omega
 have hv := s.val_in hl0
 obtain ⟨x, hx⟩ := at_ (l := l) (k := (s.val l.length).toNat) (by omega)
 refine ac ?_
 refine ap ?_
 refine TO.efc 0 rfl rfl (by decide) (ef_callc rfl rfl (by decide) rfl (w_DNext (by omega) (by omega)) ⟨ke rfl, ke rfl, trivial⟩) (tp rfl (ok_indexAddr rfl underlying22 sz3 (vl rfl) (vl rfl) (by omega) (row_atI hx)) ?_)
 refine ap ?_
 refine Tr.ret (Fin.retY1 [] rfl (RVal.tmp rfl (Lr)) ?_ (fun _ _ _ _ => rfl))
 · refine int_eq ?_; unfold DS.of; rw [hx]; rfl
theorem w_DOne {b : Nat} {s : DS} {n : Int} (hn : 1 ≤ n) (hn2 : n ≤ 1000000000) : FunM prog 36 [ptr b 0, int n] (bool (s.val n == n - 1)) (diceS b s) (fun _ => diceS b s.adv) := by
 refine FunM.of func36 rfl rfl (by exact Nb rfl) fun M0 w0 S rs M1 w1 => ?_
 refine ac ?_
 refine ap ?_
 refine TO.efc 0 rfl rfl (by decide) (ef_callc rfl rfl (by decide) rfl (w_DNext (by omega) (by omega)) ⟨ke rfl, ke rfl, trivial⟩) ?_
 refine ap ?_
 refine Tr.ret (Fin.retY1 [] rfl (RVal.tmp rfl (Lr)) ?_ (fun _ _ _ _ => rfl))
 · exact Lr
/-- New dice. -/
def newDice (l : List Int) (hl : l.length ≤ 1000000000) (v : Value) : Res := match v with | .pointer (some a) => diceR 101 a.block ⟨l, 0, Nat.zero_le _, hl⟩ | _ => noRes

theorem w_Roll {l : List Int} (hl : l.length ≤ 1000000000) : FunM prog 12 [ints l] (ex fun b => ptr b 0) (noRes) (newDice l hl) := by
 refine FunM.of func12 rfl rfl (by exact Nb rfl) fun M0 w0 S rs M1 w1 => ?_
 refine ac ?_
 refine ap ?_
 refine TO.boxm rfl rfl (by decide) rfl (Va rfl) (fun b1 => ?_)
 refine ap ?_
 refine Tr.ret (Fin.drop 1 ?_)
 refine Fin.retY1 [] rfl (RVal.tmp rfl (Lr)) ?_ (by rintro _ _ _ rfl; rfl)
 · exact ex_in b1 (Lr)
-- no type cipherplan/api.Fact here
-- no type cipherplan/asset.place here
theorem eqv24 {d : Nat} {w : World} {x0 y0 : Int} {x1 y1 : Int} : (Op.equalIn (d + 2) 24 (.agg #[.int .i64 x0, .int .i64 x1]) (.agg #[.int .i64 y0, .int .i64 y1])).run Tryz.prog w = .ok (decide (x0 = y0 ∧ x1 = y1)) w := by
 have h := eqS (w := w) (d := d + 1) (xs := #[.int .i64 x0, .int .i64 x1]) (ys := #[.int .i64 y0, .int .i64 y1]) Tryz.underlying24 (by kernel_rfl) (eqF_cons (by decide) (part_leaf one3 rfl) (part_leaf one3 rfl) (eq_intL (d := d + 0) Tryz.underlying3) (eqF_cons (by decide) (part_leaf one3 rfl) (part_leaf one3 rfl) (eq_intL (d := d + 0) Tryz.underlying3) (eqF_nil)))
 refine h.trans (congrArg (fun b => Result.ok b w) ?_)
 rw [Bool.eq_iff_iff]; simp [and_assoc]
theorem ok_eq24 {E : Env} {I : Asn} {o : Oper} {u : TypeId} {x y : Operand} {x0 y0 : Int} {x1 y1 : Int} (ho : o.op = .binOp .eql 24 x y u) (hx : VL E x (agg [is (.int .i64 x0), is (.int .i64 x1)])) (hy : VL E y (agg [is (.int .i64 y0), is (.int .i64 y1)])) : OpOK Tryz.prog I o E (bool (decide (x0 = y0 ∧ x1 = y1))) :=
 ok_eqagg [.int .i64 x0, .int .i64 x1] [.int .i64 y0, .int .i64 y1] ho hx hy (by kernel_rfl) (fun w => by rw [show Op.equal 24 _ _ = Op.equalIn (9998 + 2) 24 _ _ from rfl]; exact eqv24)
theorem ok_ne24 {E : Env} {I : Asn} {o : Oper} {u : TypeId} {x y : Operand} {x0 y0 : Int} {x1 y1 : Int} (ho : o.op = .binOp .neq 24 x y u) (hx : VL E x (agg [is (.int .i64 x0), is (.int .i64 x1)])) (hy : VL E y (agg [is (.int .i64 y0), is (.int .i64 y1)])) : OpOK Tryz.prog I o E (bool (!decide (x0 = y0 ∧ x1 = y1))) :=
 ok_neagg [.int .i64 x0, .int .i64 x1] [.int .i64 y0, .int .i64 y1] ho hx hy (by kernel_rfl) (fun w => by rw [show Op.equal 24 _ _ = Op.equalIn (9998 + 2) 24 _ _ from rfl]; exact eqv24)
theorem eqv96 {d : Nat} {w : World} {x0 y0 : Int} {x1 y1 : List UInt8} {x2 y2 : Int} {x3 y3 : Int} {x4 y4 : Int} {x5 y5 : Int} {x6 y6 : List UInt8} {x7 y7 : Int} {x8 y8 : Int} {x9 y9 : Int} {x10 y10 : List UInt8} : (Op.equalIn (d + 3) 96 (.agg #[.int .i64 x0, .string ⟨x1.toArray⟩, .int .i64 x2, .int .i64 x3, .int .i64 x4, .int .i64 x5, .string ⟨x6.toArray⟩, .int .i64 x7, .int .i64 x8, .int .i64 x9, .string ⟨x10.toArray⟩]) (.agg #[.int .i64 y0, .string ⟨y1.toArray⟩, .int .i64 y2, .int .i64 y3, .int .i64 y4, .int .i64 y5, .string ⟨y6.toArray⟩, .int .i64 y7, .int .i64 y8, .int .i64 y9, .string ⟨y10.toArray⟩])).run Tryz.prog w = .ok (decide (x0 = y0 ∧ x1 = y1 ∧ x2 = y2 ∧ x3 = y3 ∧ x4 = y4 ∧ x5 = y5 ∧ x6 = y6 ∧ x7 = y7 ∧ x8 = y8 ∧ x9 = y9 ∧ x10 = y10)) w := by
 have h := eqS (w := w) (d := d + 2) (xs := #[.int .i64 x0, .string ⟨x1.toArray⟩, .int .i64 x2, .int .i64 x3, .int .i64 x4, .int .i64 x5, .string ⟨x6.toArray⟩, .int .i64 x7, .int .i64 x8, .int .i64 x9, .string ⟨x10.toArray⟩]) (ys := #[.int .i64 y0, .string ⟨y1.toArray⟩, .int .i64 y2, .int .i64 y3, .int .i64 y4, .int .i64 y5, .string ⟨y6.toArray⟩, .int .i64 y7, .int .i64 y8, .int .i64 y9, .string ⟨y10.toArray⟩]) Tryz.underlying96 (by kernel_rfl) (eqF_cons (by decide) (part_leaf one3 rfl) (part_leaf one3 rfl) (eq_intL (d := d + 1) Tryz.underlying3) (eqF_cons (by decide) (part_leaf one9 rfl) (part_leaf one9 rfl) (eq_strL (d := d + 1) Tryz.underlying9) (eqF_cons (by decide) (part_leaf one3 rfl) (part_leaf one3 rfl) (eq_intL (d := d + 1) Tryz.underlying3) (eqF_cons (by decide) (part_leaf one3 rfl) (part_leaf one3 rfl) (eq_intL (d := d + 1) Tryz.underlying3) (eqF_cons (by decide) (part_leaf one3 rfl) (part_leaf one3 rfl) (eq_intL (d := d + 1) Tryz.underlying3) (eqF_cons (by decide) (part_leaf one3 rfl) (part_leaf one3 rfl) (eq_intL (d := d + 1) Tryz.underlying3) (eqF_cons (by decide) (part_leaf one9 rfl) (part_leaf one9 rfl) (eq_strL (d := d + 1) Tryz.underlying9) (eqF_cons (by decide) (part_agg agg24 sz24 rfl) (part_agg agg24 sz24 rfl) (eqv24 (d := d + 0) (w := w)) (eqF_cons (by decide) (part_leaf one3 rfl) (part_leaf one3 rfl) (eq_intL (d := d + 1) Tryz.underlying3) (eqF_cons (by decide) (part_leaf one9 rfl) (part_leaf one9 rfl) (eq_strL (d := d + 1) Tryz.underlying9) (eqF_nil)))))))))))
 refine h.trans (congrArg (fun b => Result.ok b w) ?_)
 rw [Bool.eq_iff_iff]; simp [and_assoc]
theorem ok_eq96 {E : Env} {I : Asn} {o : Oper} {u : TypeId} {x y : Operand} {x0 y0 : Int} {x1 y1 : List UInt8} {x2 y2 : Int} {x3 y3 : Int} {x4 y4 : Int} {x5 y5 : Int} {x6 y6 : List UInt8} {x7 y7 : Int} {x8 y8 : Int} {x9 y9 : Int} {x10 y10 : List UInt8} (ho : o.op = .binOp .eql 96 x y u) (hx : VL E x (agg [is (.int .i64 x0), str x1, is (.int .i64 x2), is (.int .i64 x3), is (.int .i64 x4), is (.int .i64 x5), str x6, is (.int .i64 x7), is (.int .i64 x8), is (.int .i64 x9), str x10])) (hy : VL E y (agg [is (.int .i64 y0), str y1, is (.int .i64 y2), is (.int .i64 y3), is (.int .i64 y4), is (.int .i64 y5), str y6, is (.int .i64 y7), is (.int .i64 y8), is (.int .i64 y9), str y10])) : OpOK Tryz.prog I o E (bool (decide (x0 = y0 ∧ x1 = y1 ∧ x2 = y2 ∧ x3 = y3 ∧ x4 = y4 ∧ x5 = y5 ∧ x6 = y6 ∧ x7 = y7 ∧ x8 = y8 ∧ x9 = y9 ∧ x10 = y10))) :=
 ok_eqagg [.int .i64 x0, .string ⟨x1.toArray⟩, .int .i64 x2, .int .i64 x3, .int .i64 x4, .int .i64 x5, .string ⟨x6.toArray⟩, .int .i64 x7, .int .i64 x8, .int .i64 x9, .string ⟨x10.toArray⟩] [.int .i64 y0, .string ⟨y1.toArray⟩, .int .i64 y2, .int .i64 y3, .int .i64 y4, .int .i64 y5, .string ⟨y6.toArray⟩, .int .i64 y7, .int .i64 y8, .int .i64 y9, .string ⟨y10.toArray⟩] ho hx hy (by kernel_rfl) (fun w => by rw [show Op.equal 96 _ _ = Op.equalIn (9997 + 3) 96 _ _ from rfl]; exact eqv96)
theorem ok_ne96 {E : Env} {I : Asn} {o : Oper} {u : TypeId} {x y : Operand} {x0 y0 : Int} {x1 y1 : List UInt8} {x2 y2 : Int} {x3 y3 : Int} {x4 y4 : Int} {x5 y5 : Int} {x6 y6 : List UInt8} {x7 y7 : Int} {x8 y8 : Int} {x9 y9 : Int} {x10 y10 : List UInt8} (ho : o.op = .binOp .neq 96 x y u) (hx : VL E x (agg [is (.int .i64 x0), str x1, is (.int .i64 x2), is (.int .i64 x3), is (.int .i64 x4), is (.int .i64 x5), str x6, is (.int .i64 x7), is (.int .i64 x8), is (.int .i64 x9), str x10])) (hy : VL E y (agg [is (.int .i64 y0), str y1, is (.int .i64 y2), is (.int .i64 y3), is (.int .i64 y4), is (.int .i64 y5), str y6, is (.int .i64 y7), is (.int .i64 y8), is (.int .i64 y9), str y10])) : OpOK Tryz.prog I o E (bool (!decide (x0 = y0 ∧ x1 = y1 ∧ x2 = y2 ∧ x3 = y3 ∧ x4 = y4 ∧ x5 = y5 ∧ x6 = y6 ∧ x7 = y7 ∧ x8 = y8 ∧ x9 = y9 ∧ x10 = y10))) :=
 ok_neagg [.int .i64 x0, .string ⟨x1.toArray⟩, .int .i64 x2, .int .i64 x3, .int .i64 x4, .int .i64 x5, .string ⟨x6.toArray⟩, .int .i64 x7, .int .i64 x8, .int .i64 x9, .string ⟨x10.toArray⟩] [.int .i64 y0, .string ⟨y1.toArray⟩, .int .i64 y2, .int .i64 y3, .int .i64 y4, .int .i64 y5, .string ⟨y6.toArray⟩, .int .i64 y7, .int .i64 y8, .int .i64 y9, .string ⟨y10.toArray⟩] ho hx hy (by kernel_rfl) (fun w => by rw [show Op.equal 96 _ _ = Op.equalIn (9997 + 3) 96 _ _ from rfl]; exact eqv96)
def cmpI (a b : Int) : Int := if a < b then -1 else if b < a then 1 else 0
theorem cmpI_zero {a b : Int} : cmpI a b = 0 ↔ a = b := by unfold cmpI; by_cases h1 : a < b <;> by_cases h2 : b < a <;> simp [h1, h2] <;> omega
def orF (l : List Int) : Int := (l.find? fun x => x != 0).getD 0
theorem orF_hit {l : List Int} {k : Nat} {x : Int} (hx : l[k]? = some x) (h0 : ¬ x = 0) (h : ∀ j y, j < k → l[j]? = some y → (y != 0) = false) : x = orF l := by
 unfold orF
 have : l.find? (fun x => x != 0) = some x := by
  rw [List.find?_eq_some_iff_getElem]
  have hk : k < l.length := by rcases Nat.lt_or_ge k l.length with h | h; exact h; rw [List.getElem?_eq_none h] at hx; cases hx
  rw [List.getElem?_eq_getElem hk] at hx
  simp only [Option.some.injEq] at hx
  refine ⟨by simpa using h0, k, hk, hx, fun j hj => ?_⟩
  have := h j _ hj (List.getElem?_eq_getElem (by omega))
  simpa using this
 rw [this]; rfl
theorem orF_none {l : List Int} (h : ∀ j y, j < l.length → l[j]? = some y → (y != 0) = false) : 0 = orF l := by
 unfold orF
 have : l.find? (fun x => x != 0) = none := by
  rw [List.find?_eq_none]
  intro x hx
  obtain ⟨j, hj, rfl⟩ := List.mem_iff_getElem.1 hx
  have := h j _ hj (List.getElem?_eq_getElem hj)
  simpa using this
 rw [this]; rfl
def okc (c : UInt8) : Bool := decide (33 ≤ c.toNat ∧ c.toNat ≤ 126)
def named (s : List UInt8) : Bool := s.all okc && decide (1 ≤ s.length ∧ s.length ≤ 32)
theorem all_hit {β : Type} {p : β → Bool} {l : List β} {k : Nat} {x : β} (hx : l[k]? = some x) (hp : p x = false) : l.all p = false := by
 rw [Bool.eq_false_iff]; intro h; rw [List.all_eq_true] at h; rw [h x (List.mem_of_getElem? hx)] at hp; cases hp
theorem all_end {β : Type} {p : β → Bool} {l : List β} (h : ∀ j y, j < l.length → l[j]? = some y → (!p y) = false) : l.all p = true := by
 rw [List.all_eq_true]
 intro y hy
 obtain ⟨j, hj⟩ := List.mem_iff_getElem?.1 hy
 have := h j y (by rcases Nat.lt_or_ge j l.length with h | h; exact h; rw [List.getElem?_eq_none h] at hj; cases hj) hj
 simpa using this

theorem w_isNaNI {n : Int}  : Fun prog 280 [int n] (bool false) := by
 refine fo func280 rfl ⟨rfl, rfl⟩ fun M0 w0 => ?_
 refine a3 ?_
 · exact bool_eq (by simp)
theorem w_cmpI {a b : Int}  : Fun prog 231 [int a, int b] (int (cmpI a b)) := by
 refine fo func231 rfl ⟨rfl, rfl⟩ fun M0 w0 => ?_
 · repeat' first | exact absurd h (by decide) | (refine int_eq ?_; unfold cmpI; (repeat split) <;> omega) | refine co rfl (kc1 (w_isNaNI) rfl rfl) ?_ | refine ac ?_ | (refine Tr.cn rfl ?_ ?_ <;> intro h q)
theorem w_cmpS0 {a b : List UInt8}  : Fun prog 281 [str a, str b] (int (Lib.compareBytes a b)) := by
 refine fo func281 rfl ⟨rfl, rfl⟩ fun M0 w0 => ?_
 refine a2 ?_
 refine co rfl (ok_cmpstr rfl func299 (by kernel_rfl) (by kernel_rfl) (by kernel_rfl) (by kernel_rfl) (vl rfl) (vl rfl)) ?_
 refine a2 ?_
 · exact Lr
theorem w_cmpS {a b : List UInt8}  : Fun prog 234 [str a, str b] (int (Lib.compareBytes a b)) := by
 refine fo func234 rfl ⟨rfl, rfl⟩ fun M0 w0 => ?_
 refine a2 ?_
 refine co rfl (kc2 (w_cmpS0) rfl rfl rfl) ?_
 refine a2 ?_
 · exact Lr
theorem w_Named {s : List UInt8} (hs : s.length ≤ maxLen) : Fun prog 184 [str s] (bool (named s)) := by
 refine fo func184 rfl ⟨rfl, rfl⟩ fun M0 w0 => ?_
 refine a2 ?_
 refine co rfl (ok_bytes rfl underlying9 underlying198 underlying5 (vl rfl) (by assumption)) ?_
 refine ac ?_
 refine Tr.block (Tr.lenm 6 rfl fun hl6 => (Tr.loopw [(0, _), (6, _), (7, _)] (kk3 rfl) (fun k : Nat => [(8, int ((k : Nat) : Int))]) (fun k : Nat => k ≤ (s).length ∧ (∀ j y, j < k → s[j]? = some y → (!okc y) = false)) (fun k : Nat => (s).length - k) 0 (⟨Nat.zero_le _, fun j y hj => absurd hj (by omega)⟩) ⟨ke rfl, trivial⟩ ?_))
 rintro k ⟨hle_k, hinv_k⟩
 refine ac ?_
 refine Tr.seq ?_
 refine Tr.cn rfl ?_ ?_ <;> intro h1 q1
 have hk_k : k < (s).length := lt_of_dec h1
 obtain ⟨c, hx_k⟩ := at_ hk_k
 refine ac ?_
 refine Tr.seq (Tr.block (Tr.seq (Tr.reg0 (co rfl (ok_indexAddr rfl underlying198 sz5 (vl rfl) (vl rfl) (by omega) (by exact row_at (by assumption))) ?_))))
 · repeat' first | (refine bool_eq ?_; unfold named; rw [all_hit (p := okc) hx_k (by simp [okc]; omega)]; rfl) | (exact Fin.fam_same (k + 1) ⟨⟨hk_k, step_no (p := fun c => !okc c) hx_k (by simp [okc]; omega) hinv_k⟩, by omega⟩ ⟨⟨_, rfl, int_succ k⟩, ke rfl, ke rfl, ke rfl, trivial⟩) | refine ac ?_ | (refine Tr.cn rfl ?_ ?_ <;> intro h q) | (refine Ch.cg rfl rfl rfl ?_ ?_ <;> intro h q)
 have he_k : k = (s).length := by have := ge_of_dec h1; omega
 subst he_k
 · repeat' first | (refine bool_eq ?_; unfold named; rw [all_end hinv_k, Bool.true_and]; rw [decide_eq_decide]; omega) | (refine bool_eq ?_; unfold named; rw [all_end hinv_k, Bool.true_and]; (symm; rw [decide_eq_false_iff_not]; omega)) | refine ac ?_ | (refine Ch.cg rfl rfl rfl ?_ ?_ <;> intro h q)
theorem w_RName {s : List UInt8}  : Fun prog 186 [str s] (bool (named s)) := by
 refine fo func186 rfl ⟨rfl, rfl⟩ fun M0 w0 => ?_
 refine ac ?_
 refine ag ?_ ?_ <;> intro h1 q1
 refine a3 ?_
 · refine bool_eq ?_; unfold named; rw [Bool.and_eq_false_iff.2 (.inr (by simp; omega))]
 refine an ?_ ?_ <;> intro h2 q2
 refine a2 ?_
 · refine bool_eq ?_; unfold named; rw [Bool.and_eq_false_iff.2 (.inr (by simp; omega))]
 refine a2 ?_
 refine Tr.block (Tr.loopw [(0, _)] ⟨ke rfl, trivial⟩ (fun k : Nat => [(3, int ((k : Nat) : Int))]) (fun k : Nat => k ≤ (s).length ∧ (∀ j y, j < k → s[j]? = some y → (!okc y) = false)) (fun k : Nat => (s).length - k) 0 (⟨Nat.zero_le _, fun j y hj => absurd hj (by omega)⟩) ⟨ke rfl, trivial⟩ ?_)
 rintro k ⟨hle_k, hinv_k⟩
 refine an ?_ ?_ <;> intro h3 q3
 have hk_k : k < (s).length := lt_of_dec h3
 obtain ⟨c, hx_k⟩ := at_ hk_k
 · repeat' first | (refine bool_eq ?_; unfold named; rw [all_hit (p := okc) hx_k (by simp [okc]; omega)]; rfl) | (exact Fin.fam_same (k + 1) ⟨⟨hk_k, step_no (p := fun c => !okc c) hx_k (by simp [okc]; omega) hinv_k⟩, by omega⟩ ⟨⟨_, rfl, int_succ k⟩, ke rfl, trivial⟩) | refine co rfl (ok_sidx rfl underlying9 (vl rfl) (vl rfl) (by omega) (sidx_at (by assumption))) ?_ | refine cy h rfl (ok_sidx rfl underlying9 (vl rfl) (vl rfl) (by omega) (sidx_at (by assumption))) ?_ | refine ac ?_ | (refine Tr.cn rfl ?_ ?_ <;> intro h q) | (refine Ch.cg rfl rfl rfl ?_ ?_ <;> intro h q)
 have he_k : k = (s).length := by have := ge_of_dec h3; omega
 subst he_k
 refine a3 ?_
 · refine bool_eq ?_; unfold named; rw [all_end hinv_k, Bool.true_and]; symm; rw [decide_eq_true_eq]; omega
structure CatRow where
 name : List UInt8
 kind : Int
 way : Int
 sizes : List Int
 strengths : List Int
abbrev rowC (r : CatRow) : List Pr := [str r.name, int r.kind, int r.way, ints r.sizes, ints r.strengths]
def catTable : List CatRow := [⟨[], 0, 0, [], []⟩, ⟨[109, 100, 53], 1, 0, [], [18]⟩, ⟨[115, 104, 97, 49], 1, 0, [], [60]⟩, ⟨[115, 104, 97, 50, 53, 54], 1, 0, [], [128]⟩, ⟨[115, 104, 97, 51, 56, 52], 1, 0, [], [192]⟩, ⟨[114, 115, 97], 2, 1, [], []⟩, ⟨[100, 115, 97], 2, 1, [], []⟩, ⟨[101, 99, 100, 115, 97], 2, 2, [], []⟩, ⟨[101, 100, 50, 53, 53, 49, 57], 2, 0, [], [128]⟩, ⟨[109, 108, 100, 115, 97], 2, 3, [44, 65, 87], [128, 192, 256]⟩, ⟨[114, 115, 97, 107, 120], 3, 1, [], []⟩, ⟨[100, 104, 101], 3, 1, [], []⟩, ⟨[101, 99, 100, 104, 101], 3, 2, [], []⟩, ⟨[109, 108, 107, 101, 109], 3, 3, [512, 768, 1024], [128, 192, 256]⟩, ⟨[114, 99, 52], 4, 3, [40, 128], [40, 60]⟩, ⟨[100, 101, 115, 51], 4, 3, [112, 168], [80, 112]⟩, ⟨[97, 101, 115, 99, 98, 99], 4, 3, [128, 256], [128, 256]⟩, ⟨[97, 101, 115, 103, 99, 109], 4, 3, [128, 256], [128, 256]⟩, ⟨[99, 104, 97, 99, 104, 97], 4, 0, [], [256]⟩, ⟨[104, 109, 97, 99, 109, 100, 53], 5, 0, [], [64]⟩, ⟨[104, 109, 97, 99, 115, 104, 97, 49], 5, 0, [], [80]⟩, ⟨[104, 109, 97, 99, 115, 104, 97, 50, 53, 54], 5, 0, [], [128]⟩, ⟨[97, 101, 97, 100], 5, 0, [], [256]⟩]
def catZero : CatRow := ⟨[], 0, 0, [], []⟩
def catOf (alg : Int) : CatRow := if 1 ≤ alg ∧ alg ≤ 22 then (catTable[alg.toNat]?).getD catZero else catZero
theorem catTable_at {alg : Int} (h : 1 ≤ alg ∧ alg ≤ 22) : catTable[alg.toNat]? = some (catOf alg) := by
 have hl : alg.toNat < catTable.length := by show alg.toNat < 23; omega
 unfold catOf; rw [if_pos h, List.getElem?_eq_getElem hl]; rfl
theorem flat_row {β : Type} {f : β → List Pr} {sz : Nat} (hf : ∀ x, (f x).length = sz) : ∀ {l : List β} {i : Nat} {x : β}, l[i]? = some x → ((l.flatMap f).drop (i * sz)).take sz = f x
 | [], _, _, h => by simp at h
 | a :: l, 0, x, h => by
  simp at h; subst h
  rw [List.flatMap_cons, Nat.zero_mul, List.drop_zero, List.take_append_of_le_length (by rw [hf]; exact Nat.le_refl _), List.take_of_length_le (by rw [hf]; exact Nat.le_refl _)]
 | a :: l, i + 1, x, h => by
  rw [List.flatMap_cons, Nat.succ_mul, Nat.add_comm, ← List.drop_drop, List.drop_left' (hf a)]
  exact flat_row hf (by simpa using h)
theorem drop_cons {β : Type} {l : List β} {k : Nat} {x : β} (h : l[k]? = some x) : l.drop k = x :: l.drop (k + 1) := by
 have hk : k < l.length := by rcases Nat.lt_or_ge k l.length with h' | h'; exact h'; rw [List.getElem?_eq_none h'] at h; cases h
 rw [List.drop_eq_getElem_cons hk]
 rw [List.getElem?_eq_getElem hk] at h
 simp at h; rw [h]
def mods : List (Int × Int) := [(1024, 56), (2048, 80), (3072, 112), (7680, 128), (15360, 192)]
def modF : List (Int × Int) → Int → Int
 | [], _ => 256
 | p :: l, b => if b < p.1 then p.2 else modF l b
def modI (b : Int) : Int := modF mods b

theorem w_rows   : Fun prog 266 [] (agg (catTable.flatMap rowC)) := by
 refine fo func266 rfl ⟨rfl, rfl⟩ fun M0 w0 => (Tr.seq (Tr.regT ?_))
 refine Tl rfl rfl rfl rfl z272 zo272 (fun b1 => ?_)
 refine ap ?_
 refine ap ?_
 refine tp rfl (ok_build (rows := [(0, [_]), (1, [_]), (2, [_]), (3, [_]), (4, [_])]) rfl bl244 zo244 ⟨⟨rfl, (Vo rfl)⟩, ⟨⟨rfl, (Vo rfl)⟩, ⟨⟨rfl, (Vo rfl)⟩, ⟨⟨rfl, ⟨_, rfl, Pr.le_trans (nil_slice 1) (one_cellsP _)⟩⟩, ⟨⟨rfl, ⟨_, rfl, Pr.le_trans (full_le _ _) (one_cellsP _)⟩⟩, trivial⟩⟩⟩⟩⟩ rfl) (tp rfl (oI) ?_)
 refine tp rfl (ok_build (rows := [(0, [_]), (1, [_]), (2, [_]), (3, [_]), (4, [_])]) rfl bl244 zo244 ⟨⟨rfl, (Vo rfl)⟩, ⟨⟨rfl, (Vo rfl)⟩, ⟨⟨rfl, (Vo rfl)⟩, ⟨⟨rfl, ⟨_, rfl, Pr.le_trans (nil_slice 1) (one_cellsP _)⟩⟩, ⟨⟨rfl, ⟨_, rfl, Pr.le_trans (full_le _ _) (one_cellsP _)⟩⟩, trivial⟩⟩⟩⟩⟩ rfl) (tp rfl (oI) ?_)
 refine tp rfl (ok_build (rows := [(0, [_]), (1, [_]), (2, [_]), (3, [_]), (4, [_])]) rfl bl244 zo244 ⟨⟨rfl, (Vo rfl)⟩, ⟨⟨rfl, (Vo rfl)⟩, ⟨⟨rfl, (Vo rfl)⟩, ⟨⟨rfl, ⟨_, rfl, Pr.le_trans (nil_slice 1) (one_cellsP _)⟩⟩, ⟨⟨rfl, ⟨_, rfl, Pr.le_trans (full_le _ _) (one_cellsP _)⟩⟩, trivial⟩⟩⟩⟩⟩ rfl) (tp rfl (oI) ?_)
 refine tp rfl (ok_build (rows := [(0, [_]), (1, [_]), (2, [_]), (3, [_]), (4, [_])]) rfl bl244 zo244 ⟨⟨rfl, (Vo rfl)⟩, ⟨⟨rfl, (Vo rfl)⟩, ⟨⟨rfl, (Vo rfl)⟩, ⟨⟨rfl, ⟨_, rfl, Pr.le_trans (nil_slice 1) (one_cellsP _)⟩⟩, ⟨⟨rfl, ⟨_, rfl, Pr.le_trans (full_le _ _) (one_cellsP _)⟩⟩, trivial⟩⟩⟩⟩⟩ rfl) (tp rfl (ok_build (rows := [(0, [_]), (1, [_]), (2, [_]), (3, [_]), (4, [_])]) rfl bl244 zo244 ⟨⟨rfl, (Vo rfl)⟩, ⟨⟨rfl, (Vo rfl)⟩, ⟨⟨rfl, (Vo rfl)⟩, ⟨⟨rfl, ⟨_, rfl, Pr.le_trans (nil_slice 1) (one_cellsP _)⟩⟩, ⟨⟨rfl, ⟨_, rfl, Pr.le_trans (nil_slice 1) (one_cellsP _)⟩⟩, trivial⟩⟩⟩⟩⟩ rfl) (tp rfl (ok_build (rows := [(0, [_]), (1, [_]), (2, [_]), (3, [_]), (4, [_])]) rfl bl244 zo244 ⟨⟨rfl, (Vo rfl)⟩, ⟨⟨rfl, (Vo rfl)⟩, ⟨⟨rfl, (Vo rfl)⟩, ⟨⟨rfl, ⟨_, rfl, Pr.le_trans (nil_slice 1) (one_cellsP _)⟩⟩, ⟨⟨rfl, ⟨_, rfl, Pr.le_trans (nil_slice 1) (one_cellsP _)⟩⟩, trivial⟩⟩⟩⟩⟩ rfl) (tp rfl (ok_build (rows := [(0, [_]), (1, [_]), (2, [_]), (3, [_]), (4, [_])]) rfl bl244 zo244 ⟨⟨rfl, (Vo rfl)⟩, ⟨⟨rfl, (Vo rfl)⟩, ⟨⟨rfl, (Vo rfl)⟩, ⟨⟨rfl, ⟨_, rfl, Pr.le_trans (nil_slice 1) (one_cellsP _)⟩⟩, ⟨⟨rfl, ⟨_, rfl, Pr.le_trans (nil_slice 1) (one_cellsP _)⟩⟩, trivial⟩⟩⟩⟩⟩ rfl) (tp rfl (oI) ?_))))
 refine tp rfl (ok_build (rows := [(0, [_]), (1, [_]), (2, [_]), (3, [_]), (4, [_])]) rfl bl244 zo244 ⟨⟨rfl, (Vo rfl)⟩, ⟨⟨rfl, (Vo rfl)⟩, ⟨⟨rfl, (Vo rfl)⟩, ⟨⟨rfl, ⟨_, rfl, Pr.le_trans (nil_slice 1) (one_cellsP _)⟩⟩, ⟨⟨rfl, ⟨_, rfl, Pr.le_trans (full_le _ _) (one_cellsP _)⟩⟩, trivial⟩⟩⟩⟩⟩ rfl) ?_
 refine ap ?_
 refine tp rfl (ok_build (rows := [(0, [_]), (1, [_]), (2, [_]), (3, [_]), (4, [_])]) rfl bl244 zo244 ⟨⟨rfl, (Vo rfl)⟩, ⟨⟨rfl, (Vo rfl)⟩, ⟨⟨rfl, (Vo rfl)⟩, ⟨⟨rfl, ⟨_, rfl, Pr.le_trans (full_le _ _) (one_cellsP _)⟩⟩, ⟨⟨rfl, ⟨_, rfl, Pr.le_trans (full_le _ _) (one_cellsP _)⟩⟩, trivial⟩⟩⟩⟩⟩ rfl) (tp rfl (ok_build (rows := [(0, [_]), (1, [_]), (2, [_]), (3, [_]), (4, [_])]) rfl bl244 zo244 ⟨⟨rfl, (Vo rfl)⟩, ⟨⟨rfl, (Vo rfl)⟩, ⟨⟨rfl, (Vo rfl)⟩, ⟨⟨rfl, ⟨_, rfl, Pr.le_trans (nil_slice 1) (one_cellsP _)⟩⟩, ⟨⟨rfl, ⟨_, rfl, Pr.le_trans (nil_slice 1) (one_cellsP _)⟩⟩, trivial⟩⟩⟩⟩⟩ rfl) (tp rfl (ok_build (rows := [(0, [_]), (1, [_]), (2, [_]), (3, [_]), (4, [_])]) rfl bl244 zo244 ⟨⟨rfl, (Vo rfl)⟩, ⟨⟨rfl, (Vo rfl)⟩, ⟨⟨rfl, (Vo rfl)⟩, ⟨⟨rfl, ⟨_, rfl, Pr.le_trans (nil_slice 1) (one_cellsP _)⟩⟩, ⟨⟨rfl, ⟨_, rfl, Pr.le_trans (nil_slice 1) (one_cellsP _)⟩⟩, trivial⟩⟩⟩⟩⟩ rfl) (tp rfl (ok_build (rows := [(0, [_]), (1, [_]), (2, [_]), (3, [_]), (4, [_])]) rfl bl244 zo244 ⟨⟨rfl, (Vo rfl)⟩, ⟨⟨rfl, (Vo rfl)⟩, ⟨⟨rfl, (Vo rfl)⟩, ⟨⟨rfl, ⟨_, rfl, Pr.le_trans (nil_slice 1) (one_cellsP _)⟩⟩, ⟨⟨rfl, ⟨_, rfl, Pr.le_trans (nil_slice 1) (one_cellsP _)⟩⟩, trivial⟩⟩⟩⟩⟩ rfl) ?_)))
 refine ap ?_
 refine tp rfl (ok_build (rows := [(0, [_]), (1, [_]), (2, [_]), (3, [_]), (4, [_])]) rfl bl244 zo244 ⟨⟨rfl, (Vo rfl)⟩, ⟨⟨rfl, (Vo rfl)⟩, ⟨⟨rfl, (Vo rfl)⟩, ⟨⟨rfl, ⟨_, rfl, Pr.le_trans (full_le _ _) (one_cellsP _)⟩⟩, ⟨⟨rfl, ⟨_, rfl, Pr.le_trans (full_le _ _) (one_cellsP _)⟩⟩, trivial⟩⟩⟩⟩⟩ rfl) ?_
 refine ap ?_
 refine tp rfl (ok_build (rows := [(0, [_]), (1, [_]), (2, [_]), (3, [_]), (4, [_])]) rfl bl244 zo244 ⟨⟨rfl, (Vo rfl)⟩, ⟨⟨rfl, (Vo rfl)⟩, ⟨⟨rfl, (Vo rfl)⟩, ⟨⟨rfl, ⟨_, rfl, Pr.le_trans (full_le _ _) (one_cellsP _)⟩⟩, ⟨⟨rfl, ⟨_, rfl, Pr.le_trans (full_le _ _) (one_cellsP _)⟩⟩, trivial⟩⟩⟩⟩⟩ rfl) ?_
 refine ap ?_
 refine tp rfl (ok_build (rows := [(0, [_]), (1, [_]), (2, [_]), (3, [_]), (4, [_])]) rfl bl244 zo244 ⟨⟨rfl, (Vo rfl)⟩, ⟨⟨rfl, (Vo rfl)⟩, ⟨⟨rfl, (Vo rfl)⟩, ⟨⟨rfl, ⟨_, rfl, Pr.le_trans (full_le _ _) (one_cellsP _)⟩⟩, ⟨⟨rfl, ⟨_, rfl, Pr.le_trans (full_le _ _) (one_cellsP _)⟩⟩, trivial⟩⟩⟩⟩⟩ rfl) ?_
 refine ap ?_
 refine tp rfl (ok_build (rows := [(0, [_]), (1, [_]), (2, [_]), (3, [_]), (4, [_])]) rfl bl244 zo244 ⟨⟨rfl, (Vo rfl)⟩, ⟨⟨rfl, (Vo rfl)⟩, ⟨⟨rfl, (Vo rfl)⟩, ⟨⟨rfl, ⟨_, rfl, Pr.le_trans (full_le _ _) (one_cellsP _)⟩⟩, ⟨⟨rfl, ⟨_, rfl, Pr.le_trans (full_le _ _) (one_cellsP _)⟩⟩, trivial⟩⟩⟩⟩⟩ rfl) ?_
 refine ap ?_
 refine tp rfl (ok_build (rows := [(0, [_]), (1, [_]), (2, [_]), (3, [_]), (4, [_])]) rfl bl244 zo244 ⟨⟨rfl, (Vo rfl)⟩, ⟨⟨rfl, (Vo rfl)⟩, ⟨⟨rfl, (Vo rfl)⟩, ⟨⟨rfl, ⟨_, rfl, Pr.le_trans (full_le _ _) (one_cellsP _)⟩⟩, ⟨⟨rfl, ⟨_, rfl, Pr.le_trans (full_le _ _) (one_cellsP _)⟩⟩, trivial⟩⟩⟩⟩⟩ rfl) (tp rfl (oI) ?_)
 refine tp rfl (ok_build (rows := [(0, [_]), (1, [_]), (2, [_]), (3, [_]), (4, [_])]) rfl bl244 zo244 ⟨⟨rfl, (Vo rfl)⟩, ⟨⟨rfl, (Vo rfl)⟩, ⟨⟨rfl, (Vo rfl)⟩, ⟨⟨rfl, ⟨_, rfl, Pr.le_trans (nil_slice 1) (one_cellsP _)⟩⟩, ⟨⟨rfl, ⟨_, rfl, Pr.le_trans (full_le _ _) (one_cellsP _)⟩⟩, trivial⟩⟩⟩⟩⟩ rfl) (tp rfl (oI) ?_)
 refine tp rfl (ok_build (rows := [(0, [_]), (1, [_]), (2, [_]), (3, [_]), (4, [_])]) rfl bl244 zo244 ⟨⟨rfl, (Vo rfl)⟩, ⟨⟨rfl, (Vo rfl)⟩, ⟨⟨rfl, (Vo rfl)⟩, ⟨⟨rfl, ⟨_, rfl, Pr.le_trans (nil_slice 1) (one_cellsP _)⟩⟩, ⟨⟨rfl, ⟨_, rfl, Pr.le_trans (full_le _ _) (one_cellsP _)⟩⟩, trivial⟩⟩⟩⟩⟩ rfl) (tp rfl (oI) ?_)
 refine tp rfl (ok_build (rows := [(0, [_]), (1, [_]), (2, [_]), (3, [_]), (4, [_])]) rfl bl244 zo244 ⟨⟨rfl, (Vo rfl)⟩, ⟨⟨rfl, (Vo rfl)⟩, ⟨⟨rfl, (Vo rfl)⟩, ⟨⟨rfl, ⟨_, rfl, Pr.le_trans (nil_slice 1) (one_cellsP _)⟩⟩, ⟨⟨rfl, ⟨_, rfl, Pr.le_trans (full_le _ _) (one_cellsP _)⟩⟩, trivial⟩⟩⟩⟩⟩ rfl) (tp rfl (oI) ?_)
 refine tp rfl (ok_build (rows := [(0, [_]), (1, [_]), (2, [_]), (3, [_]), (4, [_])]) rfl bl244 zo244 ⟨⟨rfl, (Vo rfl)⟩, ⟨⟨rfl, (Vo rfl)⟩, ⟨⟨rfl, (Vo rfl)⟩, ⟨⟨rfl, ⟨_, rfl, Pr.le_trans (nil_slice 1) (one_cellsP _)⟩⟩, ⟨⟨rfl, ⟨_, rfl, Pr.le_trans (full_le _ _) (one_cellsP _)⟩⟩, trivial⟩⟩⟩⟩⟩ rfl) (tp rfl (oI) ?_)
 refine tp rfl (ok_build (rows := [(0, [_]), (1, [_]), (2, [_]), (3, [_]), (4, [_])]) rfl bl244 zo244 ⟨⟨rfl, (Vo rfl)⟩, ⟨⟨rfl, (Vo rfl)⟩, ⟨⟨rfl, (Vo rfl)⟩, ⟨⟨rfl, ⟨_, rfl, Pr.le_trans (nil_slice 1) (one_cellsP _)⟩⟩, ⟨⟨rfl, ⟨_, rfl, Pr.le_trans (full_le _ _) (one_cellsP _)⟩⟩, trivial⟩⟩⟩⟩⟩ rfl) ?_
 refine ap ?_
 refine wk1 0 rfl (Tr.ret (Fin.retX1 rfl (RVal.cell 0 rfl rfl agg272 sz272 rfl (Lr)) ?_))
 · exact agg_le ⟨Lr, Lr, Lr, nil_slice 1, nil_slice 1, Lr, Lr, Lr, Lr, Lr, Lr, Lr, Lr, Lr, Lr, Lr, Lr, Lr, Lr, Lr, Lr, Lr, Lr, Lr, Lr, Lr, Lr, Lr, Lr, Lr, Lr, Lr, Lr, Lr, Lr, Lr, Lr, Lr, Lr, Lr, Lr, Lr, Lr, Lr, Lr, Lr, Lr, Lr, Lr, Lr, Lr, Lr, Lr, Lr, Lr, Lr, Lr, Lr, Lr, Lr, Lr, Lr, Lr, Lr, Lr, Lr, Lr, Lr, Lr, Lr, Lr, Lr, Lr, Lr, Lr, Lr, Lr, Lr, Lr, Lr, Lr, Lr, Lr, Lr, Lr, Lr, Lr, Lr, Lr, Lr, Lr, Lr, Lr, Lr, Lr, Lr, Lr, Lr, Lr, Lr, Lr, Lr, Lr, Lr, Lr, Lr, Lr, Lr, Lr, Lr, Lr, Lr, Lr, Lr, Lr, trivial⟩
theorem w_of {alg : Int}  : Fun prog 224 [int alg] (tup [agg (rowC (catOf alg)), bool (decide (1 ≤ alg ∧ alg ≤ 22))]) := by
 refine fo func224 rfl ⟨rfl, rfl⟩ fun M0 w0 => (Tr.seq (Tr.regT ?_))
 refine Tl rfl rfl rfl rfl z244 zo244 (fun b1 => ?_)
 refine ap ?_
 refine ag ?_ ?_ <;> intro h1 q1
 refine ac ?_
 refine Tr.cond rfl (fun _ => ?_) (fun h => nomatch h)
 refine Tr.seq (Tr.regT (tp rfl (ok_build (rows := []) rfl bl244 zo244 trivial rfl) (TO.store_all 0 rfl rfl rfl (vl rfl) (Va rfl) rfl sz244 rfl rfl (tm rfl (TO.nil (Fin.go (Tr.ret (Fin.then_ret (Fin.retX2 rfl (RVal.cell 0 rfl rfl agg244 sz244 rfl (Lr)) (RVal.tmp rfl (Lr)) ?_)))))))))
 · refine tup_le ⟨?_, bool_eq (by symm; rw [decide_eq_false_iff_not]; omega), trivial⟩; unfold catOf; rw [if_neg (by omega)]; exact agg_le ⟨Lr, Lr, Lr, nil_slice 1, nil_slice 1, trivial⟩
 refine an ?_ ?_ <;> intro h2 q2
 refine ap ?_
 refine Tr.ret (Fin.then_ret (Fin.retX2 rfl (RVal.cell 0 rfl rfl agg244 sz244 rfl (Lr)) (RVal.tmp rfl (Lr)) ?_))
 · refine tup_le ⟨?_, bool_eq (by symm; rw [decide_eq_false_iff_not]; omega), trivial⟩; unfold catOf; rw [if_neg (by omega)]; exact agg_le ⟨Lr, Lr, Lr, nil_slice 1, nil_slice 1, trivial⟩
 have hin : 1 ≤ alg ∧ alg ≤ 22 := by omega
 refine ac ?_
 refine Tr.seq (Tr.regT (tp rfl (kc0 (w_rows) rfl) (tm rfl (tp rfl (ok_index rfl underlying272 agg244 sz244 (vl rfl) (vl rfl) (by omega) (by omega) (flat_row (f := rowC) (fun _ => rfl) (catTable_at hin))) ?_))))
 refine ap ?_
 refine Tr.ret (Fin.retX2 rfl (RVal.cell 0 rfl rfl agg244 sz244 rfl (Lr)) (RVal.tmp rfl (Lr)) ?_)
 · exact tup_le ⟨Lr, bool_eq (by symm; rw [decide_eq_true_eq]; exact hin), trivial⟩
theorem w_Kind {alg : Int}  : Fun prog 191 [int alg] (int (catOf alg).kind) := by
 refine fo func191 rfl ⟨rfl, rfl⟩ fun M0 w0 => ?_
 refine ac ?_
 refine ao ?_
 refine tp rfl (kc1 (w_of) rfl rfl) ?_
 refine ao ?_
 refine Tl rfl rfl rfl rfl z244 zo244 (fun b1 => ?_)
 refine sf 0 3 ⟨rfl, rfl, rfl⟩ rfl rfl rfl rfl ?_
 refine ao ?_
 refine a2 ?_
 · exact Lr
theorem w_modulus {b : Int}  : Fun prog 263 [int b] (int (modI b)) := by
 refine fo func263 rfl ⟨rfl, rfl⟩ fun M0 w0 => ?_
 have hml : mods.length = 5 := rfl
 refine a2 ?_
 refine Tr.block (Tr.re 10 rfl (Pr.le_of_eq (show _ = agg (mods.flatMap fun p => [int p.1, int p.2]) from rfl)) (Tr.loopw [(0, _), (10, _)] (kk2 rfl) (fun k : Nat => [(11, int ((k : Nat) : Int))]) (fun k : Nat => k ≤ (mods).length ∧ (modI b = modF (mods.drop k) b)) (fun k : Nat => (mods).length - k) 0 (⟨Nat.zero_le _, rfl⟩) ⟨ke rfl, trivial⟩ ?_))
 rintro k ⟨hle_k, hinv_k⟩
 refine ac ?_
 refine Tr.seq ?_
 refine Tr.cn rfl ?_ ?_ <;> intro h1 q1
 have hk_k : k < (mods).length := lt_of_dec h1
 obtain ⟨p, hx_k⟩ := at_ hk_k
 have hL : k < 5 := hk_k
 have hdr := drop_cons hx_k
 refine ac ?_
 refine Tr.seq (Tr.block (Tr.seq (Tr.regT (tp rfl (ok_index rfl underlying293 agg292 sz292 (vl rfl) (vl rfl) (by omega) (by omega) (flat_row (f := fun p : Int × Int => [int p.1, int p.2]) (fun _ => rfl) hx_k)) ?_))))
 refine Tl rfl rfl rfl rfl z292 zo292 (fun b1 => ?_)
 refine sf 0 4 ⟨rfl, rfl, rfl⟩ rfl rfl rfl rfl ?_
 refine ao ?_
 refine ac ?_
 refine co rfl (ok_indexArr rfl underlying292 sz3 (vl rfl) (vl rfl) (by omega) (by omega) rfl) (co rfl (ok_load_hd rfl one3 (vl rfl) rfl) ?_)
 refine an ?_ ?_ <;> intro h2 q2
 refine Tr.seq (Tr.reg0 (co rfl (ok_indexArr rfl underlying292 sz3 (vl rfl) (vl rfl) (by omega) (by omega) rfl) (co rfl (ok_load_hd rfl one3 (vl rfl) rfl) ?_)))
 refine ac ?_
 refine wk1 2 rfl ?_
 refine ac ?_
 · refine int_eq ?_; rw [hinv_k, hdr]; exact (if_pos (by omega)).symm
 refine a2 ?_
 exact Fin.fam_same (k + 1) ⟨⟨hk_k, (by rw [hinv_k, hdr]; exact if_neg (by omega))⟩, by omega⟩ ⟨⟨_, rfl, int_succ k⟩, ke rfl, ke rfl, trivial⟩
 have he_k : k = (mods).length := by have := ge_of_dec h1; omega
 subst he_k
 refine a3 ?_
 · refine int_eq ?_; rw [hinv_k, List.drop_length]; rfl
def curvs : List Int := [160, 224, 256, 384, 521]
def strength (alg bits : Int) : Int :=
 if 1 ≤ alg ∧ alg ≤ 22 then
  if (catOf alg).way = 0 then (if bits = 0 then ((catOf alg).strengths[0]?).getD 0 else 0)
  else if (catOf alg).way = 1 then (if 512 ≤ bits ∧ bits ≤ 16384 then modI bits else 0)
  else if (catOf alg).way = 2 then (if (curvs.any fun x => bits == x) = true then bits.tdiv 2 else 0)
  else if (catOf alg).way = 3 then (if 0 ≤ idx (fun x => bits == x) (catOf alg).sizes then ((catOf alg).strengths[(idx (fun x => bits == x) (catOf alg).sizes).toNat]?).getD 0 else 0)
  else 0
 else 0
theorem catOf_tail {alg : Int} (h : 1 ≤ alg ∧ alg ≤ 22) : catOf alg ∈ catTable.tail := by
 have h1 := catTable_at h
 refine List.mem_of_getElem? (i := alg.toNat - 1) ?_
 rw [List.getElem?_tail, show alg.toNat - 1 + 1 = alg.toNat by omega]; exact h1
theorem cat_ok : ∀ r ∈ catTable.tail, (r.way = 0 → 1 ≤ r.strengths.length) ∧ (r.way = 3 → r.sizes.length ≤ r.strengths.length) := by decide
theorem idx_lt {β : Type} (p : β → Bool) (l : List β) : idx p l < l.length := by
 unfold idx
 cases h : l.findIdx? p with
 | none => simp; omega
 | some i => rw [List.findIdx?_eq_some_iff_getElem] at h; obtain ⟨h1, _⟩ := h; simp; omega

theorem w_Strength {alg bits : Int}  : Fun prog 221 [agg [int alg, int bits]] (int (strength alg bits)) := by
 refine fo func221 rfl ⟨rfl, rfl⟩ fun M0 w0 => ?_
 refine ac ?_
 refine ao ?_
 refine tp rfl (kc1 (w_of) rfl rfl) ?_
 refine ao ?_
 refine Tl rfl rfl rfl rfl z244 zo244 (fun b1 => ?_)
 refine sf 0 3 ⟨rfl, rfl, rfl⟩ rfl rfl rfl rfl ?_
 refine ao ?_
 refine ac ?_
 refine wk3 1 3 13 rfl ?_
 refine Tr.cn rfl ?_ ?_ <;> intro h1 q1
 refine a2 ?_
 · refine int_eq ?_; unfold strength; rw [if_neg (by intro hh; simp [hh] at h1)]
 have hin : 1 ≤ alg ∧ alg ≤ 22 := by simpa using h1
 obtain ⟨hc0, hc3⟩ := cat_ok _ (catOf_tail hin)
 refine a2 ?_
 refine an ?_ ?_ <;> intro h2 q2
 refine an ?_ ?_ <;> intro h3 q3
 obtain ⟨z, hz⟩ := at_ (l := (catOf alg).strengths) (k := 0) (hc0 (by omega))
 refine ac ?_
 refine co rfl (ok_indexAddr rfl underlying22 sz3 (vl rfl) (vl rfl) (by omega) (row_at (k := 0) hz)) ?_
 refine ac ?_
 refine wk1 2 rfl ?_
 refine ac ?_
 · refine int_eq ?_; unfold strength; rw [if_pos hin, if_pos (by omega), if_pos (by omega), hz]; rfl
 refine a3 ?_
 · refine int_eq ?_; unfold strength; rw [if_pos hin, if_pos (by omega), if_neg (by omega)]
 refine an ?_ ?_ <;> intro h4 q4
 · repeat' first | (refine int_eq ?_; unfold strength; rw [if_pos hin, if_neg (by omega), if_pos (by omega), if_pos (by omega)]) | (refine int_eq ?_; unfold strength; rw [if_pos hin, if_neg (by omega), if_pos (by omega), if_neg (by omega)]) | refine co rfl (kc1 (w_modulus) rfl rfl) ?_ | refine ac ?_ | (refine Tr.cn rfl ?_ ?_ <;> intro h q) | (refine Ch.cg rfl rfl rfl ?_ ?_ <;> intro h q)
 refine an ?_ ?_ <;> intro h7 q7
 refine ac ?_
 refine co rfl (ok_call rfl (w_ContainsI (l := curvs)) ⟨(Kf rfl), ke rfl, trivial⟩) ?_
 refine ac ?_
 refine wk2 1 43 rfl ?_
 refine Tr.cn rfl ?_ ?_ <;> intro h8 q8
 have hb : bits = 160 ∨ bits = 224 ∨ bits = 256 ∨ bits = 384 ∨ bits = 521 := by simpa [curvs] using h8
 refine ac ?_
 refine co rfl (ok_quo rfl (vl rfl) (vl rfl) (by omega)) ?_
 refine a2 ?_
 · refine int_eq ?_; unfold strength; rw [if_pos hin, if_neg (by omega), if_neg (by omega), if_pos (by omega), if_pos (by assumption)]; rcases hb with h | h | h | h | h <;> rw [h] <;> rfl
 refine a3 ?_
 · refine int_eq ?_; unfold strength; rw [if_pos hin, if_neg (by omega), if_neg (by omega), if_pos (by omega), if_neg (ne_true (by assumption))]
 refine an ?_ ?_ <;> intro h9 q9
 refine ac ?_
 refine co rfl (kc2 (w_IndexI) rfl rfl rfl) ?_
 refine ac ?_
 refine wk2 3 5 rfl ?_
 refine an ?_ ?_ <;> intro h10 q10
 have hlt := idx_lt (fun x => bits == x) (catOf alg).sizes
 obtain ⟨z, hz⟩ := at_ (l := (catOf alg).strengths) (k := (idx (fun x => bits == x) (catOf alg).sizes).toNat) (by have := hc3 (by omega); omega)
 refine ac ?_
 refine co rfl (ok_indexAddr rfl underlying22 sz3 (vl rfl) (vl rfl) (by omega) (row_atI hz)) ?_
 refine a2 ?_
 · refine int_eq ?_; unfold strength; rw [if_pos hin, if_neg (by omega), if_neg (by omega), if_neg (by omega), if_pos (by omega), if_pos (by assumption), hz]; rfl
 refine a3 ?_
 · refine int_eq ?_; unfold strength; rw [if_pos hin, if_neg (by omega), if_neg (by omega), if_neg (by omega), if_pos (by omega), if_neg (by omega)]
 refine a2 ?_
 refine wk1 2 rfl ?_
 refine ac ?_
 · refine int_eq ?_; unfold strength; rw [if_pos hin, if_neg (by omega), if_neg (by omega), if_neg (by omega), if_neg (by omega)]
theorem w_Valid {alg bits : Int}  : Fun prog 185 [agg [int alg, int bits]] (bool (decide (strength alg bits > 0))) := by
 refine fo func185 rfl ⟨rfl, rfl⟩ fun M0 w0 => ?_
 refine a2 ?_
 refine co rfl (kc1 (w_Strength) rfl rfl) ?_
 refine a2 ?_
 · exact Lr
def amongI (b : Int) (l m : List Int) : Int := if 0 ≤ idx (fun x => b == x) l then (m[(idx (fun x => b == x) l).toNat]?).getD 0 else 0
theorem among_hit {b : Int} {l m : List Int} {k : Nat} {x z : Int} (hx : l[k]? = some x) (he : x = b) (hz : m[k]? = some z) (h : ∀ j y, j < k → l[j]? = some y → (b == y) = false) : z = amongI b l m := by
 have := idx_found (p := fun x => b == x) hx (by simp [he]) h
 unfold amongI; rw [← this, if_pos (by omega), Int.toNat_natCast, hz]; rfl
theorem among_none {b : Int} {l m : List Int} (h : ∀ j y, j < l.length → l[j]? = some y → (b == y) = false) : 0 = amongI b l m := by
 have := idx_none (p := fun x => b == x) h
 unfold amongI; rw [← this, if_neg (by omega)]
def singleI (alg : Int) : Int := if alg = 1 then 18 else if alg = 2 then 60 else if alg = 3 ∨ alg = 8 ∨ alg = 21 then 128 else if alg = 4 then 192 else if alg = 18 ∨ alg = 22 then 256 else if alg = 19 then 64 else if alg = 20 then 80 else 0
def rmodI (b : Int) : Int := if b < 512 ∨ b > 16384 then 0 else if b < 1024 then 56 else if b < 2048 then 80 else if b < 3072 then 112 else if b < 7680 then 128 else if b < 15360 then 192 else 256
theorem rmodI_eq (b : Int) : rmodI b = if 512 ≤ b ∧ b ≤ 16384 then modI b else 0 := by
 have h1 : modI b = if b < 1024 then 56 else if b < 2048 then 80 else if b < 3072 then 112 else if b < 7680 then 128 else if b < 15360 then 192 else 256 := rfl
 rw [h1]; unfold rmodI
 by_cases h : 512 ≤ b ∧ b ≤ 16384
 · rw [if_pos h, if_neg (by omega)]
 · rw [if_neg h, if_pos (by omega)]

theorem w_among {b : Int} {l m : List Int} (hl : l.length ≤ m.length) : Fun prog 256 [int b, ints l, ints m] (int (amongI b l m)) := by
 refine fo func256 rfl ⟨rfl, rfl⟩ fun M0 w0 => (Tr.lenm 1 rfl fun hlm_1 => ?_)
 refine a2 ?_
 refine Tr.block (Tr.loopw [(0, _), (1, _), (2, _)] (kk3 rfl) (fun k : Nat => [(7, int ((k : Nat) : Int))]) (fun k : Nat => k ≤ (l).length ∧ (∀ j y, j < k → l[j]? = some y → (b == y) = false)) (fun k : Nat => (l).length - k) 0 (⟨Nat.zero_le _, fun j y hj => absurd hj (by omega)⟩) ⟨ke rfl, trivial⟩ ?_)
 rintro k ⟨hle_k, hinv_k⟩
 refine an ?_ ?_ <;> intro h1 q1
 have hk_k : k < (l).length := lt_of_dec h1
 obtain ⟨x, hx_k⟩ := at_ hk_k
 obtain ⟨z, hz⟩ := at_ (l := m) (k := k) (by omega)
 · repeat' first | exact int_eq (among_hit hx_k (by assumption) hz hinv_k) | (exact Fin.fam_same (k + 1) ⟨⟨hk_k, step_no (p := fun x => b == x) hx_k (by simp; omega) hinv_k⟩, by omega⟩ ⟨⟨_, rfl, int_succ k⟩, ke rfl, ke rfl, ke rfl, trivial⟩) | refine co rfl (ok_indexAddr rfl underlying22 sz3 (vl rfl) (vl rfl) (by omega) (by exact row_at (by assumption))) ?_ | refine ac ?_ | (refine Tr.cn rfl ?_ ?_ <;> intro h q)
 have he_k : k = (l).length := by have := ge_of_dec h1; omega
 subst he_k
 refine a3 ?_
 · exact int_eq (among_none hinv_k)
theorem w_single {alg : Int}  : Fun prog 257 [int alg] (int (singleI alg)) := by
 refine fo func257 rfl ⟨rfl, rfl⟩ fun M0 w0 => ?_
 refine a2 ?_
 refine an ?_ ?_ <;> intro h1 q1
 refine a2 ?_
 · refine int_eq ?_; unfold singleI; (repeat (rw [if_pos (by omega)]))
 refine an ?_ ?_ <;> intro h2 q2
 refine a2 ?_
 · refine int_eq ?_; unfold singleI; (repeat (first | rw [if_pos (by omega)] | rw [if_neg (by omega)]))
 refine an ?_ ?_ <;> intro h3 q3
 refine ac ?_
 refine Tr.cond rfl (fun _ => ?_) (fun h => nomatch h3.symm.trans h)
 refine a2 ?_
 · refine int_eq ?_; unfold singleI; (repeat (first | rw [if_pos (by omega)] | rw [if_neg (by omega)]))
 refine an ?_ ?_ <;> intro h4 q4
 refine ac ?_
 refine Tr.cond rfl (fun _ => ?_) (fun h => nomatch h4.symm.trans h)
 refine a2 ?_
 · refine int_eq ?_; unfold singleI; (repeat (first | rw [if_pos (by omega)] | rw [if_neg (by omega)]))
 refine an ?_ ?_ <;> intro h5 q5
 refine a2 ?_
 · refine int_eq ?_; unfold singleI; (repeat (first | rw [if_pos (by omega)] | rw [if_neg (by omega)]))
 refine ac ?_
 refine wk2 3 12 rfl ?_
 refine Tr.cn rfl ?_ ?_ <;> intro h6 q6
 refine a2 ?_
 · refine int_eq ?_; unfold singleI; (repeat (first | rw [if_pos (by omega)] | rw [if_neg (by omega)]))
 refine an ?_ ?_ <;> intro h7 q7
 refine ac ?_
 refine Tr.cond rfl (fun _ => ?_) (fun h => nomatch h7.symm.trans h)
 refine a2 ?_
 · refine int_eq ?_; unfold singleI; (repeat (first | rw [if_pos (by omega)] | rw [if_neg (by omega)]))
 · repeat' first | (refine int_eq ?_; unfold singleI; (repeat (first | rw [if_pos (by omega)] | rw [if_neg (by omega)]))) | (refine int_eq ?_; unfold singleI; (repeat (rw [if_neg (by omega)]))) | refine ac ?_ | (refine Tr.cn rfl ?_ ?_ <;> intro h q)
theorem w_Rmodulus {b : Int}  : Fun prog 255 [int b] (int (rmodI b)) := by
 refine fo func255 rfl ⟨rfl, rfl⟩ fun M0 w0 => ?_
 refine ac ?_
 refine ac ?_
 refine Ch.cs 6 rfl ?_ ?_ <;> intro h1 q1
 refine ac ?_
 refine ac ?_
 refine ac ?_
 · refine int_eq ?_; unfold rmodI; (repeat (rw [if_pos (by omega)]))
 refine ac ?_
 refine Tr.cn rfl ?_ ?_ <;> intro h2 q2
 refine ac ?_
 refine ac ?_
 · refine int_eq ?_; unfold rmodI; (repeat (rw [if_pos (by omega)]))
 refine ac ?_
 refine Tr.cn rfl ?_ ?_ <;> intro h3 q3
 refine ac ?_
 refine ac ?_
 · refine int_eq ?_; unfold rmodI; (repeat (first | rw [if_pos (by omega)] | rw [if_neg (by omega)]))
 refine ac ?_
 refine wk2 0 13 rfl ?_
 refine Tr.cn rfl ?_ ?_ <;> intro h4 q4
 refine ac ?_
 refine ac ?_
 · refine int_eq ?_; unfold rmodI; (repeat (first | rw [if_pos (by omega)] | rw [if_neg (by omega)]))
 refine ac ?_
 refine Tr.cn rfl ?_ ?_ <;> intro h5 q5
 refine ac ?_
 refine ac ?_
 · refine int_eq ?_; unfold rmodI; (repeat (first | rw [if_pos (by omega)] | rw [if_neg (by omega)]))
 refine ac ?_
 refine Tr.cn rfl ?_ ?_ <;> intro h6 q6
 refine ac ?_
 refine ac ?_
 · refine int_eq ?_; unfold rmodI; (repeat (first | rw [if_pos (by omega)] | rw [if_neg (by omega)]))
 refine ac ?_
 refine Tr.cn rfl ?_ ?_ <;> intro h7 q7
 refine ac ?_
 refine ac ?_
 · refine int_eq ?_; unfold rmodI; (repeat (first | rw [if_pos (by omega)] | rw [if_neg (by omega)]))
 refine ac ?_
 refine ac ?_
 refine ac ?_
 · refine int_eq ?_; unfold rmodI; (repeat (rw [if_neg (by omega)]))
theorem among_0 (b c : Int) : amongI b [0] [c] = if b = 0 then c else 0 := by
 unfold amongI idx
 by_cases h : b = 0
 · subst h; rfl
 ·
  have : List.findIdx? (fun x => b == x) [0] = none := by simp [h]
  rw [this, if_neg h]; rfl
theorem strength_mod {alg b : Int} (h : alg = 5 ∨ alg = 6 ∨ alg = 10 ∨ alg = 11) : rmodI b = strength alg b := by
 rw [rmodI_eq]
 rcases h with rfl | rfl | rfl | rfl <;> rfl
theorem strength_rest {alg b : Int} (h : ¬ (alg = 5 ∨ alg = 6 ∨ alg = 7 ∨ alg = 9 ∨ alg = 10 ∨ alg = 11 ∨ alg = 12 ∨ alg = 13 ∨ alg = 14 ∨ alg = 15 ∨ alg = 16 ∨ alg = 17)) : amongI b [0] [singleI alg] = strength alg b := by
 rw [among_0]
 by_cases hin : 1 ≤ alg ∧ alg ≤ 22
 ·
  have ha : alg = 1 ∨ alg = 2 ∨ alg = 3 ∨ alg = 4 ∨ alg = 8 ∨ alg = 18 ∨ alg = 19 ∨ alg = 20 ∨ alg = 21 ∨ alg = 22 := by omega
  rcases ha with rfl | rfl | rfl | rfl | rfl | rfl | rfl | rfl | rfl | rfl <;> rfl
 ·
  have h1 : singleI alg = 0 := by unfold singleI; (repeat (first | rw [if_pos (by omega)] | rw [if_neg (by omega)]))
  unfold strength
  rw [h1, if_neg hin]; split <;> rfl
theorem strength_cur {alg b : Int} (h : alg = 7 ∨ alg = 12) : strength alg b = if (curvs.any fun x => b == x) = true then b.tdiv 2 else 0 := by
 rcases h with rfl | rfl <;> rfl

theorem w_RStrength {alg bits : Int}  : Fun prog 203 [agg [int alg, int bits]] (int (strength alg bits)) := by
 refine fo func203 rfl ⟨rfl, rfl⟩ fun M0 w0 => ?_
 iterate 4 refine ac ?_
 refine Tr.cn rfl ?_ ?_ <;> intro h1 q1
 refine ac ?_
 refine Tr.cond rfl (fun _ => ?_) (fun h => nomatch h1.symm.trans h)
 refine ac ?_
 refine co rfl (kc1 (w_Rmodulus) rfl rfl) ?_
 refine a2 ?_
 · refine int_eq ?_; exact strength_mod (by omega)
 refine an ?_ ?_ <;> intro h2 q2
 refine ac ?_
 refine Tr.cond rfl (fun _ => ?_) (fun h => nomatch h2.symm.trans h)
 refine ac ?_
 refine co rfl (kc1 (w_Rmodulus) rfl rfl) ?_
 refine ac ?_
 refine wk1 2 rfl ?_
 refine ac ?_
 · refine int_eq ?_; exact strength_mod (by omega)
 refine an ?_ ?_ <;> intro h3 q3
 refine ac ?_
 refine Tr.cond rfl (fun _ => ?_) (fun h => nomatch h3.symm.trans h)
 refine ac ?_
 refine co rfl (kc1 (w_Rmodulus) rfl rfl) ?_
 refine ac ?_
 refine wk1 2 rfl ?_
 refine ac ?_
 · refine int_eq ?_; exact strength_mod (by omega)
 refine ac ?_
 refine wk4 1 3 7 8 rfl ?_
 refine Tr.cn rfl ?_ ?_ <;> intro h4 q4
 refine ac ?_
 refine co rfl (kc1 (w_Rmodulus) rfl rfl) ?_
 refine a2 ?_
 · refine int_eq ?_; exact strength_mod (by omega)
 refine an ?_ ?_ <;> intro h5 q5
 refine ac ?_
 refine Tr.cond rfl (fun _ => ?_) (fun h => nomatch h5.symm.trans h)
 · repeat' first | (refine int_eq ?_; rw [strength_cur (by omega)]; have hb : bits = 160 ∨ bits = 224 ∨ bits = 256 ∨ bits = 384 ∨ bits = 521 := (by omega); rcases hb with rfl | rfl | rfl | rfl | rfl <;> rfl) | (refine int_eq ?_; rw [strength_cur (by omega), if_neg (by simp [curvs]; omega)]) | refine co rfl (ok_quo rfl (vl rfl) (vl rfl) (by omega)) ?_ | refine ac ?_ | (refine Tr.cn rfl ?_ ?_ <;> intro h q) | (refine Ch.cg rfl rfl rfl ?_ ?_ <;> intro h q)
 refine an ?_ ?_ <;> intro h11 q11
 · repeat' first | (refine int_eq ?_; rw [strength_cur (by omega)]; have hb : bits = 160 ∨ bits = 224 ∨ bits = 256 ∨ bits = 384 ∨ bits = 521 := (by omega); rcases hb with rfl | rfl | rfl | rfl | rfl <;> rfl) | (refine int_eq ?_; rw [strength_cur (by omega), if_neg (by simp [curvs]; omega)]) | refine co rfl (ok_quo rfl (vl rfl) (vl rfl) (by omega)) ?_ | refine ac ?_ | (refine Tr.cn rfl ?_ ?_ <;> intro h q) | (refine Ch.cg rfl rfl rfl ?_ ?_ <;> intro h q)
 refine an ?_ ?_ <;> intro h17 q17
 refine ac ?_
 refine co rfl (ok_call rfl (w_among (l := [44, 65, 87]) (m := [128, 192, 256]) (by simp)) ⟨ke rfl, (Kf rfl), (Kf rfl), trivial⟩) ?_
 refine ac ?_
 refine wk1 2 rfl ?_
 refine ac ?_
 · refine int_eq ?_; have ha : alg = 9 := (by omega); rcases ha with rfl <;> rfl
 refine an ?_ ?_ <;> intro h18 q18
 refine ac ?_
 refine co rfl (ok_call rfl (w_among (l := [512, 768, 1024]) (m := [128, 192, 256]) (by simp)) ⟨ke rfl, (Kf rfl), (Kf rfl), trivial⟩) ?_
 refine ac ?_
 refine wk1 2 rfl ?_
 refine ac ?_
 · refine int_eq ?_; have ha : alg = 13 := (by omega); rcases ha with rfl <;> rfl
 refine ac ?_
 refine wk4 1 3 7 50 rfl ?_
 refine Tr.cn rfl ?_ ?_ <;> intro h19 q19
 refine ac ?_
 refine co rfl (ok_call rfl (w_among (l := [40, 128]) (m := [40, 60]) (by simp)) ⟨ke rfl, (Kf rfl), (Kf rfl), trivial⟩) ?_
 refine a2 ?_
 · refine int_eq ?_; have ha : alg = 14 := (by omega); rcases ha with rfl <;> rfl
 refine an ?_ ?_ <;> intro h20 q20
 refine ac ?_
 refine co rfl (ok_call rfl (w_among (l := [112, 168]) (m := [80, 112]) (by simp)) ⟨ke rfl, (Kf rfl), (Kf rfl), trivial⟩) ?_
 refine a2 ?_
 · refine int_eq ?_; have ha : alg = 15 := (by omega); rcases ha with rfl <;> rfl
 refine an ?_ ?_ <;> intro h21 q21
 refine ac ?_
 refine Tr.cond rfl (fun _ => ?_) (fun h => nomatch h21.symm.trans h)
 refine ac ?_
 refine co rfl (ok_call rfl (w_among (l := [128, 256]) (m := [128, 256]) (by simp)) ⟨ke rfl, (Kf rfl), (Kf rfl), trivial⟩) ?_
 refine a2 ?_
 · refine int_eq ?_; have ha : alg = 16 ∨ alg = 17 := (by omega); rcases ha with rfl | rfl <;> rfl
 · repeat' first | (refine int_eq ?_; have ha : alg = 16 ∨ alg = 17 := (by omega); rcases ha with rfl | rfl <;> rfl) | (refine int_eq ?_; exact strength_rest (by omega)) | refine co rfl (ok_call rfl (w_among (l := [128, 256]) (m := [128, 256]) (by simp)) ⟨ke rfl, (Kf rfl), (Kf rfl), trivial⟩) ?_ | refine co rfl (kc1 (w_single) rfl rfl) (co rfl (ok_buildSlice (xs := [.tmp 73]) (rows := [[_]]) rfl rfl underlying22 sz3 z3 rfl (by decide) ⟨⟨(by exact rfl), (Vo rfl)⟩, trivial⟩ (by decide)) ?_) | refine co rfl (ok_call rfl (w_among (l := [0]) (m := [singleI alg]) (by simp)) ⟨ke rfl, (Kf rfl), (Kf rfl), trivial⟩) ?_ | refine ac ?_ | (refine Tr.cn rfl ?_ ?_ <;> intro h q)
theorem w_RValid {alg bits : Int}  : Fun prog 187 [agg [int alg, int bits]] (bool (decide (strength alg bits > 0))) := by
 refine fo func187 rfl ⟨rfl, rfl⟩ fun M0 w0 => ?_
 refine a2 ?_
 refine co rfl (kc1 (w_RStrength) rfl rfl) ?_
 refine a2 ?_
 · exact Lr
def rtab : List (List UInt8 × Int) := catTable.map fun r => (r.name, r.kind)
theorem rtab_at {alg : Int} (h : 1 ≤ alg ∧ alg ≤ 22) : rtab[alg.toNat]? = some ((catOf alg).name, (catOf alg).kind) := by
 unfold rtab; rw [List.getElem?_map, catTable_at h]; rfl

theorem w_Rrows   : Fun prog 181 [] (slice 2 (rtab.map fun r => [str r.1, int r.2])) := by
 refine fo func181 rfl ⟨rfl, rfl⟩ fun M0 w0 => ?_
 refine a2 ?_
 refine wk1 0 rfl ?_
 refine ac ?_
 · exact full_le _ _
theorem w_RKind {alg : Int}  : Fun prog 127 [int alg] (int (catOf alg).kind) := by
 refine fo func127 rfl ⟨rfl, rfl⟩ fun M0 w0 => ?_
 refine ac ?_
 refine ag ?_ ?_ <;> intro h1 q1
 refine a3 ?_
 · refine int_eq ?_; unfold catOf; rw [if_neg (by omega)]; rfl
 refine an ?_ ?_ <;> intro h2 q2
 refine a2 ?_
 · refine int_eq ?_; unfold catOf; rw [if_neg (by omega)]; rfl
 have hin : 1 ≤ alg ∧ alg ≤ 22 := by omega
 refine ac ?_
 refine Tr.seq (Tr.reg0 (co rfl (kc0 (w_Rrows) rfl) (cm rfl (co rfl (ok_indexAddr rfl underlying210 sz209 (vl rfl) (vl rfl) (by omega) (row_atI (f := fun r : List UInt8 × Int => [str r.1, int r.2]) (rtab_at hin))) ?_))))
 refine a2 ?_
 · exact Lr
theorem w_Signature {alg bits : Int}  : Fun prog 180 [agg [int alg, int bits]] (bool (decide (strength alg bits > 0) && (catOf alg).kind == 2)) := by
 refine fo func180 rfl ⟨rfl, rfl⟩ fun M0 w0 => ?_
 refine ac ?_
 refine ac ?_
 refine co rfl (kc1 (w_RValid) rfl rfl) (cm rfl ?_)
 refine Ch.cs 5 rfl ?_ ?_ <;> intro h1 q1
 refine ac ?_
 refine cy h1 rfl (kc1 (w_RKind) rfl rfl) ?_
 refine ac ?_
 refine ac ?_
 · refine bool_eq ?_; simp_all
 refine ac ?_
 refine ac ?_
 · refine bool_eq ?_; simp_all; omega
end Go.Proofs.YtppeeogffbpcbaaGreat
namespace Cp
open Go Go.RowKit
theorem ok_appN {P : Program} {E : Env} {I : Asn} {o : Oper} {t e : TypeId} {y : Operand} {sz bytes : Nat} {zs : List Value} {rows : List (List Pr)} (ho : o.op = .call { callee := .builtin .append, args := #[.const (.slice none 0 0), y], argTypes := #[t, t] })
  (ht : P.underlying t = some (.slice e)) (hz : sizeB P e = some sz) (hby : bytesB P e = some bytes) (hze : zeroB P e = some zs) (hzl : zs.length = sz) (hsz : 0 < sz) (hy : VL E y (slice sz rows)) (hmax : rows.length ≤ maxLen) (hfit : rows.length * bytes ≤ 140737488355328) : OpOK P I o E (slice sz rows) :=
 OpOK.val fun M w a he hI => by
  have h0 := (HpH.begin (I.bd _ _ hI)).add0 (r := noRes) rfl trivial
  obtain ⟨v', w', M', h1, h2, h3, h4⟩ := app_core (ty := o.type) (j := 0) (v := .slice none 0 0) (rows := []) ht hz hby hze hzl hsz h0 rfl (.inr ⟨rfl, rfl⟩) (nil_slice sz M w _ rfl) (hy.ev he (by simp [ho, Op.operands, Call.operands])) (by simpa using hmax) (by simpa using hfit)
  have h5 : a.eval (.const (.slice none 0 0)) = .slice none 0 0 := rfl
  exact ⟨v', w', by simp [execOp, ho, resolve, invoke, builtin, h1, h5], (slice sz rows).st _ _ _ _ _ (Ext.less h4.m) (by simpa using h2), h4.below⟩
/-- Dice of which the state is not known, in the middle of a region. -/
theorem TO.openD {P : Program} {n : Nat} {E : Env} {M0 : Av} {w0 : World} {S : Nat → Prop} {rs : List Res} {ops : Array Oper} {r : List Oper} {Q : Exit → Act → World → Prop} (i : Nat) {T : TypeId} {b : Nat} (hi : rs[i]? = some (diceEx T b)) (k : ∀ s, TO P n ops r E (Hp M0 w0 S (rs.set i (diceR T b s))) Q) : TO P n ops r E (Hp M0 w0 S rs) Q := by
 rintro m hl a w ⟨M, h1, h2, h3, h4⟩
 have h4 : HpH M0 w0 S rs M w := h4
 obtain ⟨x, hx, hh⟩ := (h4.hold _ (List.mem_of_getElem? hi)).1
 exact k x m hl a w ⟨M, h1, h2, h3, h4.swap1 hi rfl rfl hh⟩
theorem OpOK.opn {P : Program} {E : Env} {I : Asn} {o : Oper} {p : Pr} (s : Nat) {α : Type} {f : α → Pr} (hs : E.lookup s = some (Cp.ex f)) (hm : s ∈ looks o) (h : ∀ x, OpOK P I o ((s, f x) :: E) p) : OpOK P I o E p := by
 intro M w a he hI
 obtain ⟨x, hx⟩ := he s _ hm hs
 refine h x M w a (fun t q ht hq => ?_) hI
 simp only [List.lookup] at hq
 by_cases hts : t = s
 · subst hts; simp at hq; subst hq; exact hx
 · rw [show (t == s) = false by simpa using hts] at hq; exact he t q ht hq
end Cp
namespace Cp
open Go Go.RowKit Go.Great
section
variable {P : Program} {n : Nat} {E : Env} {M0 : Av} {w0 : World} {S : Nat → Prop} {rs : List Res}
end
end Cp
namespace Cp
open Go Go.RowKit

end Cp
namespace Cp
open Go Go.RowKit Go.Great
section
variable {P : Program} {n : Nat} {E : Env} {M0 : Av} {w0 : World} {S : Nat → Prop} {rs : List Res} {o : Oper} {g : Func} {M1 : Av} {w1 : World}
theorem ef_boxX {d j : Nat} {T : TypeId} {x : Operand} {ps : List Pr} (hg : o.guard = none) (hd : o.dst = some d) (hn : d < n) (ho : o.op = .box T x) (hx : VL E x (cellsP ps)) :
  OpEf P M0 w0 S n j (SR.c noRes) ⟨d, ptrRes T ps⟩ o E (Cp.ex fun b => ptr b 0) := by
 refine ⟨hg, fun M w a rs hszn he hI hj => ?_⟩
 obtain ⟨h0, h1⟩ := hx.ev (o := o) he (by simp [ho, Op.operands])
 have hw : (a.eval x).cells.toList.toArray = (a.eval x).cells := by simp
 have hrun : (execOp a.eval o).run P w = .ok (.value (.pointer (some ⟨w.heap.size, 0, none⟩))) (w.alloc (.cells (a.eval x).cells.toList.toArray T)) := by simp [execOp, ho, Instr.box, newVar, newRow]
 rw [hrun]
 have hb : Below w.heap.size w (w.alloc (.cells (a.eval x).cells.toList.toArray T)) := (Below.refl _ _).alloc (Nat.le_refl _) _
 have h2 := Ext.below (M := M) hb
 have hext : Ext M w (fun b o => M b o ∨ b = w.heap.size) (w.alloc (.cells (a.eval x).cells.toList.toArray T)) := by
  refine ⟨h2.size, fun a v hc hm => ⟨fun hx => ?_, (h2.keep a v hc hm).2⟩, fun b o ho hp hm => ⟨fun hx => ?_, (h2.obj b o ho hp hm).2⟩⟩
  ·
   rcases hx with hx | hx
   · exact hm hx
   · have := cell_lt hc; omega
  ·
   rcases hx with hx | hx
   · exact hm hx
   · subst hx; simp at ho
 have hs1 : (w.alloc (.cells (a.eval x).cells.toList.toArray T)).heap.size = w.heap.size + 1 := by simp
 have hat : (SR.at_ (a.put o.dst (.pointer (some ⟨w.heap.size, 0, none⟩))) ⟨d, ptrRes T ps⟩) = cellsRes true w.heap.size T ps := by unfold SR.at_ Slot.val; dsimp only; rw [hd, put_same (by rw [hszn]; exact hn)]; rfl
 refine ⟨fun b o => M b o ∨ b = w.heap.size, ⟨_, rfl⟩, hext, ?_⟩
 rw [hat]
 refine hI.replace hj hext hb.os hb.tape hb.output (fun k hk _ => hb.block k hk) rfl (fun b o hm _ => .inl hm) (fun b o hx => ?_) ?_ rfl (fun b hbk => ?_)
 ·
  rcases hx with hx | hx
  · have := hI.bd _ _ hx; omega
  · omega
 · refine ⟨fun o => .inr rfl, (a.eval x).cells.toList, heap_alloc_new w _, h0.st hext, h1⟩
 ·
  have hbk' : some w.heap.size = some b := hbk
  injection hbk' with e1
  subst e1
  exact ⟨by rw [hs1]; omega, .inr (Nat.le_refl _)⟩
theorem Fin.retL0 {α : Type} {C : α → Prop} {post : α → List Res} {rs' : List Res} (x : α) (hr : g.results = #[]) (hC : C x) (hp : rs'.Perm (post x ++ extRes M1 w1 :: rs)) :
  Fin n E (Hp M0 w0 S rs') (bodyPost P g (BackL M0 w0 S rs M1 w1 C (fun _ => unit_) post)) .normal := by
 rintro a w ⟨M, _, hd, he, hi⟩
 have hi : HpH M0 w0 S rs' M w := hi
 obtain ⟨h1, h2⟩ := outL (HpH.perm hp hi)
 exact ⟨hd, _, results0 hr, _, M, x, rfl, hC, rfl, h1, h2⟩
end
end Cp
namespace Go.Proofs.YtppeeogffbpcbaaGreat
open Go Go.RowKit Cp Go.Proofs.Tryz
/-- A finding. -/
structure Fnd where
 src : Int
 host : List UInt8
 machine : Int
 day : Int
 conf : Int
 kind : Int
 subj : List UInt8
 alg : Int
 bits : Int
 num : Int
 text : List UInt8
abbrev rowF (f : Fnd) : List Pr := [int f.src, str f.host, int f.machine, int f.day, int f.conf, int f.kind, str f.subj, int f.alg, int f.bits, int f.num, str f.text]
abbrev fnds (l : List Fnd) : Pr := slice 11 (l.map rowF)
/-- Its texts are of some length. -/
structure Fnd.fits (f : Fnd) : Prop where
 host : f.host.length ≤ maxLen
 subj : f.subj.length ≤ maxLen
 text : f.text.length ≤ maxLen
def bareF (f : Fnd) : Bool := decide (f.alg = 0 ∧ f.bits = 0) && decide (f.text = [])
def contentF (f : Fnd) : Bool :=
 if f.kind = 1 ∨ f.kind = 8 then decide (strength f.alg f.bits > 0) && decide (f.num = 0) && decide (f.text = [])
 else if f.kind = 2 then bareF f && decide (0 ≤ f.num) && decide (f.num ≤ 65535)
 else if f.kind = 3 then decide (strength f.alg f.bits > 0) && (catOf f.alg).kind == 2 && decide (0 ≤ f.num) && decide (f.num ≤ 2147483648) && decide (f.text = [])
 else if f.kind = 4 ∨ f.kind = 5 then bareF f && decide (1 ≤ f.num) && decide (f.num ≤ 4)
 else if f.kind = 6 then bareF f && decide (0 ≤ f.num) && decide (f.num ≤ 2147483648)
 else if f.kind = 7 then decide (f.alg = 0 ∧ f.bits = 0) && decide (f.num = 0) && named f.text
 else false
def whereF (f : Fnd) : Bool := named f.host && named f.subj && decide (0 ≤ f.machine) && decide (f.machine ≤ 1099511627776)
def whenF (f : Fnd) : Bool := decide (0 ≤ f.day) && decide (f.day ≤ 40000) && decide (1 ≤ f.conf) && decide (f.conf ≤ 100)
def checkF (f : Fnd) : Bool := whereF f && whenF f && decide (1 ≤ f.src) && decide (f.src ≤ 7) && contentF f

theorem w_content {f : Fnd} (hf : f.fits) : Fun prog 226 [agg (rowF f)] (bool (contentF f)) := by
 refine fo func226 rfl ⟨rfl, rfl⟩ fun M0 w0 => ?_
 refine ac ?_
 refine wk1 1 rfl (Tr.cutk [1] [(3, bool (bareF f))] (True) ?_ (fun h1 => ?_))
 refine ac ?_
 refine co rfl (ok_eq24 rfl (vl rfl) (vl rfl)) (cm rfl ?_)
 refine Ch.cs 8 rfl ?_ ?_ <;> intro h2 q2
 refine ac ?_
 exact Fin.fam_same () (by simp_all) ⟨⟨_, rfl, bool_eq (by simp_all [bareF])⟩, ke rfl, trivial⟩
 refine ac ?_
 exact Fin.fam_same () (by simp_all) ⟨⟨_, rfl, bool_eq (by simp_all [bareF])⟩, ke rfl, trivial⟩
 refine ac ?_
 refine ac ?_
 refine Tr.cn rfl ?_ ?_ <;> intro h3 q3
 refine ac ?_
 refine Tr.cond rfl (fun _ => ?_) (fun h => nomatch h3.symm.trans h)
 refine ac ?_
 refine co rfl (kc1 (w_Valid) rfl rfl) (cm rfl ?_)
 refine Ch.cs 21 rfl ?_ ?_ <;> intro h4 q4
 refine ac ?_
 refine Ch.cs 26 rfl ?_ ?_ <;> intro h5 q5
 refine ac ?_
 refine wk1 2 rfl ?_
 refine ac ?_
 · refine bool_eq ?_; unfold contentF; simp_all
 refine ac ?_
 refine wk1 2 rfl ?_
 refine ac ?_
 · refine bool_eq ?_; unfold contentF; simp_all
 refine ac ?_
 refine wk1 2 rfl ?_
 refine ac ?_
 · refine bool_eq ?_; unfold contentF; simp_all; omega
 refine ac ?_
 refine Tr.cn rfl ?_ ?_ <;> intro h6 q6
 refine ac ?_
 refine co rfl (kc1 (w_Valid) rfl rfl) (cm rfl ?_)
 refine Ch.cs 21 rfl ?_ ?_ <;> intro h7 q7
 refine ac ?_
 refine Ch.cs 26 rfl ?_ ?_ <;> intro h8 q8
 refine ac ?_
 refine wk1 2 rfl ?_
 refine ac ?_
 · refine bool_eq ?_; unfold contentF; simp_all
 refine ac ?_
 refine wk1 2 rfl ?_
 refine ac ?_
 · refine bool_eq ?_; unfold contentF; simp_all
 refine ac ?_
 refine wk1 2 rfl ?_
 refine ac ?_
 · refine bool_eq ?_; unfold contentF; simp_all; omega
 refine ac ?_
 refine Tr.cn rfl ?_ ?_ <;> intro h9 q9
 refine ac ?_
 refine Ch.cs 34 rfl ?_ ?_ <;> intro h10 q10
 refine ac ?_
 refine Ch.cs 39 rfl ?_ ?_ <;> intro h11 q11
 refine ac ?_
 refine wk1 2 rfl ?_
 refine ac ?_
 · refine bool_eq ?_; unfold contentF; simp_all
 refine ac ?_
 refine wk1 2 rfl ?_
 refine ac ?_
 · refine bool_eq ?_; unfold contentF; simp_all; omega
 refine ac ?_
 refine wk1 2 rfl ?_
 refine ac ?_
 · refine bool_eq ?_; unfold contentF; simp_all
 refine ac ?_
 refine Tr.cn rfl ?_ ?_ <;> intro h12 q12
 refine ac ?_
 refine co rfl (kc1 (w_Valid) rfl rfl) (cm rfl ?_)
 refine Ch.cs 49 rfl ?_ ?_ <;> intro h13 q13
 refine ac ?_
 refine cy h13 rfl (kc1 (w_Kind) rfl rfl) ?_
 refine ac ?_
 refine Ch.cs 56 rfl ?_ ?_ <;> intro h14 q14
 refine ac ?_
 refine Ch.cs 61 rfl ?_ ?_ <;> intro h15 q15
 refine ac ?_
 refine Ch.cs 66 rfl ?_ ?_ <;> intro h16 q16
 refine ac ?_
 refine wk1 2 rfl ?_
 refine ac ?_
 · refine bool_eq ?_; unfold contentF; simp_all
 refine ac ?_
 refine wk1 2 rfl ?_
 refine ac ?_
 · refine bool_eq ?_; unfold contentF; simp_all; omega
 refine ac ?_
 refine wk1 2 rfl ?_
 refine ac ?_
 · refine bool_eq ?_; unfold contentF; simp_all; omega
 refine ac ?_
 refine wk1 2 rfl ?_
 refine ac ?_
 · refine bool_eq ?_; unfold contentF; simp_all
 refine ac ?_
 refine wk1 2 rfl ?_
 refine ac ?_
 · refine bool_eq ?_; unfold contentF; simp_all; omega
 refine ac ?_
 refine wk4 1 3 14 71 rfl ?_
 refine Tr.cn rfl ?_ ?_ <;> intro h17 q17
 refine ac ?_
 refine Tr.cond rfl (fun _ => ?_) (fun h => nomatch h17.symm.trans h)
 refine ac ?_
 refine Ch.cs 75 rfl ?_ ?_ <;> intro h18 q18
 refine ac ?_
 refine Ch.cs 80 rfl ?_ ?_ <;> intro h19 q19
 refine ac ?_
 refine wk1 2 rfl ?_
 refine ac ?_
 · refine bool_eq ?_; unfold contentF; simp_all
 refine ac ?_
 refine wk1 2 rfl ?_
 refine ac ?_
 · refine bool_eq ?_; unfold contentF; simp_all; omega
 refine ac ?_
 refine wk1 2 rfl ?_
 refine ac ?_
 · refine bool_eq ?_; unfold contentF; simp_all
 refine ac ?_
 refine Tr.cn rfl ?_ ?_ <;> intro h20 q20
 refine ac ?_
 refine Ch.cs 75 rfl ?_ ?_ <;> intro h21 q21
 refine ac ?_
 refine Ch.cs 80 rfl ?_ ?_ <;> intro h22 q22
 refine ac ?_
 refine wk1 2 rfl ?_
 refine ac ?_
 · refine bool_eq ?_; unfold contentF; simp_all
 refine ac ?_
 refine wk1 2 rfl ?_
 refine ac ?_
 · refine bool_eq ?_; unfold contentF; simp_all; omega
 refine ac ?_
 refine wk1 2 rfl ?_
 refine ac ?_
 · refine bool_eq ?_; unfold contentF; simp_all
 refine ac ?_
 refine Tr.cn rfl ?_ ?_ <;> intro h23 q23
 refine ac ?_
 refine Ch.cs 88 rfl ?_ ?_ <;> intro h24 q24
 refine ac ?_
 refine Ch.cs 93 rfl ?_ ?_ <;> intro h25 q25
 refine ac ?_
 refine wk1 2 rfl ?_
 refine ac ?_
 · refine bool_eq ?_; unfold contentF; simp_all
 refine ac ?_
 refine wk1 2 rfl ?_
 refine ac ?_
 · refine bool_eq ?_; unfold contentF; simp_all; omega
 refine ac ?_
 refine wk1 2 rfl ?_
 refine ac ?_
 · refine bool_eq ?_; unfold contentF; simp_all
 refine ac ?_
 refine Tr.cn rfl ?_ ?_ <;> intro h26 q26
 refine ac ?_
 refine co rfl (ok_eq24 rfl (vl rfl) (vl rfl)) (cm rfl ?_)
 refine Ch.cs 104 rfl ?_ ?_ <;> intro h27 q27
 refine ac ?_
 refine Ch.cs 109 rfl ?_ ?_ <;> intro h28 q28
 refine ac ?_
 refine cy h28 rfl (kc1 (w_Named hf.text) rfl rfl) ?_
 refine ac ?_
 refine wk1 2 rfl ?_
 refine ac ?_
 · refine bool_eq ?_; unfold contentF; simp_all
 refine ac ?_
 refine wk1 2 rfl ?_
 refine ac ?_
 · refine bool_eq ?_; unfold contentF; simp_all
 refine ac ?_
 refine wk1 2 rfl ?_
 refine ac ?_
 · refine bool_eq ?_; unfold contentF; simp_all
 refine ac ?_
 refine ac ?_
 refine ac ?_
 · refine bool_eq ?_; unfold contentF; simp_all
theorem w_FCheck {f : Fnd} (hf : f.fits) : Fun prog 194 [agg (rowF f)] (int (if checkF f then 0 else 24)) := by
 refine fo func194 rfl ⟨rfl, rfl⟩ fun M0 w0 => ?_
 refine ac ?_
 refine wk1 1 rfl (Tr.cutk [1] [(3, bool (whereF f))] (True) ?_ (fun h1 => ?_))
 refine ac ?_
 refine co rfl (kc1 (w_Named hf.host) rfl rfl) (cm rfl ?_)
 refine Ch.cs 8 rfl ?_ ?_ <;> intro h2 q2
 refine ac ?_
 refine cy h2 rfl (kc1 (w_Named hf.subj) rfl rfl) ?_
 refine ac ?_
 refine Ch.cs 13 rfl ?_ ?_ <;> intro h3 q3
 refine ac ?_
 refine Ch.cs 18 rfl ?_ ?_ <;> intro h4 q4
 refine ac ?_
 exact Fin.fam_same () (by simp_all) ⟨⟨_, rfl, bool_eq (by simp_all [whereF])⟩, ke rfl, trivial⟩
 refine ac ?_
 exact Fin.fam_same () (by simp_all) ⟨⟨_, rfl, bool_eq (by simp_all [whereF]; omega)⟩, ke rfl, trivial⟩
 refine ac ?_
 exact Fin.fam_same () (by simp_all) ⟨⟨_, rfl, bool_eq (by simp_all [whereF])⟩, ke rfl, trivial⟩
 refine ac ?_
 exact Fin.fam_same () (by simp_all) ⟨⟨_, rfl, bool_eq (by simp_all [whereF])⟩, ke rfl, trivial⟩
 refine wk2 1 3 rfl (Tr.cutk [1, 3] [(4, bool (whenF f))] (True) ?_ (fun h5 => ?_))
 refine ac ?_
 refine Ch.cs 26 rfl ?_ ?_ <;> intro h6 q6
 refine ac ?_
 refine Ch.cs 31 rfl ?_ ?_ <;> intro h7 q7
 refine ac ?_
 refine Ch.cs 36 rfl ?_ ?_ <;> intro h8 q8
 refine ac ?_
 exact Fin.fam_same () (by simp_all) ⟨⟨_, rfl, bool_eq (by simp_all [whenF])⟩, ke rfl, ke rfl, trivial⟩
 refine ac ?_
 exact Fin.fam_same () (by simp_all) ⟨⟨_, rfl, bool_eq (by simp_all [whenF]; omega)⟩, ke rfl, ke rfl, trivial⟩
 refine ac ?_
 exact Fin.fam_same () (by simp_all) ⟨⟨_, rfl, bool_eq (by simp_all [whenF]; omega)⟩, ke rfl, ke rfl, trivial⟩
 refine ac ?_
 exact Fin.fam_same () (by simp_all) ⟨⟨_, rfl, bool_eq (by simp_all [whenF]; omega)⟩, ke rfl, ke rfl, trivial⟩
 refine ac ?_
 refine Ch.cs 43 rfl ?_ ?_ <;> intro h9 q9
 refine ac ?_
 refine wk1 61 rfl ?_
 refine ac ?_
 refine ac ?_
 · refine int_eq ?_; unfold checkF; simp_all
 refine ac ?_
 refine Ch.cs 47 rfl ?_ ?_ <;> intro h10 q10
 refine ac ?_
 refine wk1 61 rfl ?_
 refine ac ?_
 refine ac ?_
 · refine int_eq ?_; unfold checkF; simp_all
 refine ac ?_
 refine Ch.cs 52 rfl ?_ ?_ <;> intro h11 q11
 refine ac ?_
 refine wk1 61 rfl ?_
 refine ac ?_
 refine ac ?_
 · refine int_eq ?_; unfold checkF; simp_all; omega
 refine ac ?_
 refine Ch.cs 57 rfl ?_ ?_ <;> intro h12 q12
 refine ac ?_
 refine wk1 61 rfl ?_
 refine ac ?_
 refine ac ?_
 · refine int_eq ?_; unfold checkF; simp_all; omega
 refine cy h12 rfl (ok_loadA rfl agg96 sz96 (vl rfl) rfl rfl) (cy h12 rfl (kc1 (w_content (by assumption)) rfl rfl) ?_)
 refine ac ?_
 refine wk1 61 rfl ?_
 refine Tr.cn rfl ?_ ?_ <;> intro h13 q13
 refine ac ?_
 refine ac ?_
 · refine int_eq ?_; unfold checkF; simp_all
 refine ac ?_
 refine ac ?_
 refine ac ?_
 · refine int_eq ?_; unfold checkF; simp_all
/-- The first of some numbers that is not 0. -/
def orL : List Int → Int
 | [] => 0
 | a :: l => if a = 0 then orL l else a
theorem orL_orF : ∀ l, orF l = orL l
 | [] => rfl
 | a :: l => by
  have ih : (l.find? fun x => x != 0).getD 0 = orL l := orL_orF l
  show ((a :: l).find? fun x => x != 0).getD 0 = if a = 0 then orL l else a
  by_cases h : a = 0
  · rw [List.find?_cons_of_neg (by simp [h]), if_pos h]; exact ih
  · rw [List.find?_cons_of_pos (by simpa using h), if_neg h]; rfl
def keysF (a b : Fnd) : List Int := [Lib.compareBytes a.host b.host, cmpI a.machine b.machine, cmpI a.day b.day, Lib.compareBytes a.subj b.subj, cmpI a.kind b.kind, cmpI a.alg b.alg, cmpI a.bits b.bits, cmpI a.num b.num, Lib.compareBytes a.text b.text, cmpI a.src b.src, cmpI a.conf b.conf]
/-- How two findings are ordered. -/
def ordF (a b : Fnd) : Int := orL (keysF a b)
theorem w_Og3 {f : Fnd}  : Fun prog 235 [agg (rowF f)] (str f.host) := by
 refine fo func235 rfl ⟨rfl, rfl⟩ fun M0 w0 => ?_
 refine a3 ?_
 · exact Lr
theorem e_Og3 : Entry Tryz.prog 235 := ⟨_, Tryz.func235, rfl, rfl⟩
theorem w_Og4 {f : Fnd}  : Fun prog 236 [agg (rowF f)] (int f.machine) := by
 refine fo func236 rfl ⟨rfl, rfl⟩ fun M0 w0 => ?_
 refine a3 ?_
 · exact Lr
theorem e_Og4 : Entry Tryz.prog 236 := ⟨_, Tryz.func236, rfl, rfl⟩
theorem w_Og5 {f : Fnd}  : Fun prog 237 [agg (rowF f)] (int f.day) := by
 refine fo func237 rfl ⟨rfl, rfl⟩ fun M0 w0 => ?_
 refine a3 ?_
 · exact Lr
theorem e_Og5 : Entry Tryz.prog 237 := ⟨_, Tryz.func237, rfl, rfl⟩
theorem w_Og6 {f : Fnd}  : Fun prog 238 [agg (rowF f)] (str f.subj) := by
 refine fo func238 rfl ⟨rfl, rfl⟩ fun M0 w0 => ?_
 refine a3 ?_
 · exact Lr
theorem e_Og6 : Entry Tryz.prog 238 := ⟨_, Tryz.func238, rfl, rfl⟩
theorem w_Og7 {f : Fnd}  : Fun prog 239 [agg (rowF f)] (int f.kind) := by
 refine fo func239 rfl ⟨rfl, rfl⟩ fun M0 w0 => ?_
 refine a3 ?_
 · exact Lr
theorem e_Og7 : Entry Tryz.prog 239 := ⟨_, Tryz.func239, rfl, rfl⟩
theorem w_Og8 {f : Fnd}  : Fun prog 240 [agg (rowF f)] (int f.alg) := by
 refine fo func240 rfl ⟨rfl, rfl⟩ fun M0 w0 => ?_
 refine a3 ?_
 · exact Lr
theorem e_Og8 : Entry Tryz.prog 240 := ⟨_, Tryz.func240, rfl, rfl⟩
theorem w_Og9 {f : Fnd}  : Fun prog 241 [agg (rowF f)] (int f.bits) := by
 refine fo func241 rfl ⟨rfl, rfl⟩ fun M0 w0 => ?_
 refine a3 ?_
 · exact Lr
theorem e_Og9 : Entry Tryz.prog 241 := ⟨_, Tryz.func241, rfl, rfl⟩
theorem w_Og10 {f : Fnd}  : Fun prog 242 [agg (rowF f)] (int f.num) := by
 refine fo func242 rfl ⟨rfl, rfl⟩ fun M0 w0 => ?_
 refine a3 ?_
 · exact Lr
theorem e_Og10 : Entry Tryz.prog 242 := ⟨_, Tryz.func242, rfl, rfl⟩
theorem w_Og11 {f : Fnd}  : Fun prog 243 [agg (rowF f)] (str f.text) := by
 refine fo func243 rfl ⟨rfl, rfl⟩ fun M0 w0 => ?_
 refine a3 ?_
 · exact Lr
theorem e_Og11 : Entry Tryz.prog 243 := ⟨_, Tryz.func243, rfl, rfl⟩
theorem w_Og12 {f : Fnd}  : Fun prog 244 [agg (rowF f)] (int f.src) := by
 refine fo func244 rfl ⟨rfl, rfl⟩ fun M0 w0 => ?_
 refine a3 ?_
 · exact Lr
theorem e_Og12 : Entry Tryz.prog 244 := ⟨_, Tryz.func244, rfl, rfl⟩
theorem w_Og13 {f : Fnd}  : Fun prog 245 [agg (rowF f)] (int f.conf) := by
 refine fo func245 rfl ⟨rfl, rfl⟩ fun M0 w0 => ?_
 refine a3 ?_
 · exact Lr
theorem e_Og13 : Entry Tryz.prog 245 := ⟨_, Tryz.func245, rfl, rfl⟩
theorem w_O11 {g : Fnd → Int} {a b : Fnd}  : Fun prog 230 [ref [clo prog (fun f : Fnd => [agg (rowF f)]) (fun f => int (g f))], ref (rowF a), ref (rowF b)] (int (cmpI (g a) (g b))) := by
 refine fo func230 rfl ⟨rfl, rfl⟩ fun M0 w0 => ?_
 refine a2 ?_
 refine co rfl (ok_callc a rfl (vl rfl) ⟨ke rfl, trivial⟩) ?_
 refine ac ?_
 refine co rfl (ok_callc b rfl (vl rfl) ⟨ke rfl, trivial⟩) (co rfl (kc2 (w_cmpI) rfl rfl rfl) ?_)
 refine a2 ?_
 · exact Lr
theorem e_O11 : Entry Tryz.prog 230 := ⟨_, Tryz.func230, rfl, rfl⟩
theorem w_O21 {g : Fnd → List UInt8} {a b : Fnd}  : Fun prog 233 [ref [clo prog (fun f : Fnd => [agg (rowF f)]) (fun f => str (g f))], ref (rowF a), ref (rowF b)] (int (Lib.compareBytes (g a) (g b))) := by
 refine fo func233 rfl ⟨rfl, rfl⟩ fun M0 w0 => ?_
 refine a2 ?_
 refine co rfl (ok_callc a rfl (vl rfl) ⟨ke rfl, trivial⟩) ?_
 refine ac ?_
 refine co rfl (ok_callc b rfl (vl rfl) ⟨ke rfl, trivial⟩) (co rfl (kc2 (w_cmpS) rfl rfl rfl) ?_)
 refine a2 ?_
 · exact Lr
theorem e_O21 : Entry Tryz.prog 233 := ⟨_, Tryz.func233, rfl, rfl⟩
theorem w_O1 {g : Fnd → Int} {a b : Fnd}  : Fun prog 229 [clo prog (fun f : Fnd => [agg (rowF f)]) (fun f => int (g f)), ref (rowF a), ref (rowF b)] (clo prog (fun _ : Unit => []) (fun _ => int (cmpI (g a) (g b)))) := by
 refine fo func229 rfl ⟨rfl, rfl⟩ fun M0 w0 => ?_
 refine a3 ?_
 · exact fn_le_clo e_O11 (fun _ => w_O11)
theorem e_O1 : Entry Tryz.prog 229 := ⟨_, Tryz.func229, rfl, rfl⟩
theorem w_O2 {g : Fnd → List UInt8} {a b : Fnd}  : Fun prog 232 [clo prog (fun f : Fnd => [agg (rowF f)]) (fun f => str (g f)), ref (rowF a), ref (rowF b)] (clo prog (fun _ : Unit => []) (fun _ => int (Lib.compareBytes (g a) (g b)))) := by
 refine fo func232 rfl ⟨rfl, rfl⟩ fun M0 w0 => ?_
 refine a3 ?_
 · exact fn_le_clo e_O21 (fun _ => w_O21)
theorem e_O2 : Entry Tryz.prog 232 := ⟨_, Tryz.func232, rfl, rfl⟩

theorem ordF_hit {a b : Fnd} {k : Nat} {x : Int} (hx : (keysF a b)[k]? = some x) (h0 : ¬ x = 0) (h : ∀ j y, j < k → (keysF a b)[j]? = some y → (y != 0) = false) : x = ordF a b := by
 have := orF_hit hx h0 h; rw [orL_orF] at this; exact this
theorem ordF_none {a b : Fnd} (h : ∀ j y, j < (keysF a b).length → (keysF a b)[j]? = some y → (y != 0) = false) : 0 = ordF a b := by
 have := orF_none h; rw [orL_orF] at this; exact this

theorem w_FOrder {a b : Fnd}  : Fun prog 197 [agg (rowF a), agg (rowF b)] (int (ordF a b)) := by
 refine fo func197 rfl ⟨rfl, rfl⟩ fun M0 w0 => ?_
 refine ac ?_
 refine ac ?_
 refine ac ?_
 refine Tr.seq (Tr.seq (Tr.re 5 rfl (fn_le_clo (dom := fun g : Fnd → Int => [clo prog (fun f : Fnd => [agg (rowF f)]) (fun f => int (g f))]) (res := fun g => clo prog (fun _ : Unit => []) (fun _ => int (cmpI (g a) (g b)))) e_O1 (fun g => w_O1 (g := g) (a := a) (b := b))) (Tr.re 6 rfl (fn_le_clo (dom := fun g : Fnd → List UInt8 => [clo prog (fun f : Fnd => [agg (rowF f)]) (fun f => str (g f))]) (res := fun g => clo prog (fun _ : Unit => []) (fun _ => int (Lib.compareBytes (g a) (g b)))) e_O2 (fun g => w_O2 (g := g) (a := a) (b := b))) ?_)))
 refine ac ?_
 refine co rfl (ok_callc (fun f : Fnd => f.host) rfl (vl rfl) ⟨⟨_, rfl, fn_le_clo (dom := fun f : Fnd => [agg (rowF f)]) (res := fun f => str f.host) e_Og3 (fun f => w_Og3 (f := f))⟩, trivial⟩) (cm rfl (co rfl (ok_callc (fun f : Fnd => f.machine) rfl (vl rfl) ⟨⟨_, rfl, fn_le_clo (dom := fun f : Fnd => [agg (rowF f)]) (res := fun f => int f.machine) e_Og4 (fun f => w_Og4 (f := f))⟩, trivial⟩) (cm rfl (co rfl (ok_callc (fun f : Fnd => f.day) rfl (vl rfl) ⟨⟨_, rfl, fn_le_clo (dom := fun f : Fnd => [agg (rowF f)]) (res := fun f => int f.day) e_Og5 (fun f => w_Og5 (f := f))⟩, trivial⟩) (cm rfl (co rfl (ok_callc (fun f : Fnd => f.subj) rfl (vl rfl) ⟨⟨_, rfl, fn_le_clo (dom := fun f : Fnd => [agg (rowF f)]) (res := fun f => str f.subj) e_Og6 (fun f => w_Og6 (f := f))⟩, trivial⟩) (cm rfl (co rfl (ok_callc (fun f : Fnd => f.kind) rfl (vl rfl) ⟨⟨_, rfl, fn_le_clo (dom := fun f : Fnd => [agg (rowF f)]) (res := fun f => int f.kind) e_Og7 (fun f => w_Og7 (f := f))⟩, trivial⟩) (cm rfl (co rfl (ok_callc (fun f : Fnd => f.alg) rfl (vl rfl) ⟨⟨_, rfl, fn_le_clo (dom := fun f : Fnd => [agg (rowF f)]) (res := fun f => int f.alg) e_Og8 (fun f => w_Og8 (f := f))⟩, trivial⟩) (cm rfl (co rfl (ok_callc (fun f : Fnd => f.bits) rfl (vl rfl) ⟨⟨_, rfl, fn_le_clo (dom := fun f : Fnd => [agg (rowF f)]) (res := fun f => int f.bits) e_Og9 (fun f => w_Og9 (f := f))⟩, trivial⟩) (cm rfl ?_)))))))))))))
 refine co rfl (ok_callc (fun f : Fnd => f.num) rfl (vl rfl) ⟨⟨_, rfl, fn_le_clo (dom := fun f : Fnd => [agg (rowF f)]) (res := fun f => int f.num) e_Og10 (fun f => w_Og10 (f := f))⟩, trivial⟩) (cm rfl (co rfl (ok_callc (fun f : Fnd => f.text) rfl (vl rfl) ⟨⟨_, rfl, fn_le_clo (dom := fun f : Fnd => [agg (rowF f)]) (res := fun f => str f.text) e_Og11 (fun f => w_Og11 (f := f))⟩, trivial⟩) (cm rfl (co rfl (ok_callc (fun f : Fnd => f.src) rfl (vl rfl) ⟨⟨_, rfl, fn_le_clo (dom := fun f : Fnd => [agg (rowF f)]) (res := fun f => int f.src) e_Og12 (fun f => w_Og12 (f := f))⟩, trivial⟩) (cm rfl (co rfl (ok_callc (fun f : Fnd => f.conf) rfl (vl rfl) ⟨⟨_, rfl, fn_le_clo (dom := fun f : Fnd => [agg (rowF f)]) (res := fun f => int f.conf) e_Og13 (fun f => w_Og13 (f := f))⟩, trivial⟩) (co rfl (ok_buildSlice (xs := [.tmp 13, .tmp 15, .tmp 17, .tmp 19, .tmp 21, .tmp 23, .tmp 25, .tmp 27, .tmp 29, .tmp 31, .tmp 33]) (rows := [[_], [_], [_], [_], [_], [_], [_], [_], [_], [_], [_]]) rfl rfl underlying258 sz253 z253 rfl (by decide) ⟨⟨(by exact rfl), (Vo rfl)⟩, ⟨⟨(by exact rfl), (Vo rfl)⟩, ⟨⟨(by exact rfl), (Vo rfl)⟩, ⟨⟨(by exact rfl), (Vo rfl)⟩, ⟨⟨(by exact rfl), (Vo rfl)⟩, ⟨⟨(by exact rfl), (Vo rfl)⟩, ⟨⟨(by exact rfl), (Vo rfl)⟩, ⟨⟨(by exact rfl), (Vo rfl)⟩, ⟨⟨(by exact rfl), (Vo rfl)⟩, ⟨⟨(by exact rfl), (Vo rfl)⟩, ⟨⟨(by exact rfl), (Vo rfl)⟩, trivial⟩⟩⟩⟩⟩⟩⟩⟩⟩⟩⟩ (by decide)) ?_)))))))
 refine co rfl (ok_len rfl underlying258 (Kf rfl)) ?_
 refine ac ?_
 refine wk3 34 35 36 rfl (Tr.block (Tr.re 34 rfl (Pr.le_trans (full_le _ _) (Pr.le_of_eq (show _ = slice 1 ((keysF a b).map fun k => [clo prog (fun _ : Unit => []) (fun _ => int (k))]) from rfl))) (Tr.re 35 rfl (int_eq (b := (((keysF a b).length : Nat) : Int)) rfl) ?_)))
 refine Tr.loopw [(34, _), (35, _)] (kk2 rfl) (fun k : Nat => [(36, int ((k : Nat) : Int))]) (fun k : Nat => k ≤ (keysF a b).length ∧ (∀ j y, j < k → (keysF a b)[j]? = some y → (y != 0) = false)) (fun k : Nat => (keysF a b).length - k) 0 (⟨Nat.zero_le _, fun j y hj => absurd hj (by omega)⟩) ⟨ke rfl, trivial⟩ ?_
 rintro k ⟨hle_k, hinv_k⟩
 refine ac ?_
 refine Tr.seq ?_
 refine Tr.cn rfl ?_ ?_ <;> intro h1 q1
 have hk_k : k < (keysF a b).length := lt_of_dec h1
 obtain ⟨x, hx_k⟩ := at_ hk_k
 have hL : k < 11 := hk_k
 refine ac ?_
 refine Tr.seq (Tr.block (Tr.seq (Tr.reg0 (co rfl (ok_indexAddr rfl underlying258 sz253 (vl rfl) (vl rfl) (by omega) (row_at (f := fun k => [clo prog (fun _ : Unit => []) (fun _ => int (k))]) hx_k)) ?_))))
 refine ac ?_
 refine ac ?_
 refine co rfl (ok_callc () rfl (vl rfl) trivial) ?_
 refine ac ?_
 refine ac ?_
 refine Tr.cn rfl ?_ ?_ <;> intro h2 q2
 refine ac ?_
 refine wk1 4 rfl ?_
 refine ac ?_
 · exact int_eq (ordF_hit hx_k (by assumption) hinv_k)
 refine ac ?_
 refine ac ?_
 exact Fin.fam_same (k + 1) ⟨⟨hk_k, step_no (p := fun y => y != 0) hx_k (by simpa using by assumption) hinv_k⟩, by omega⟩ ⟨⟨_, rfl, int_succ k⟩, ke rfl, ke rfl, trivial⟩
 have he_k : k = (keysF a b).length := by have := ge_of_dec h1; omega
 subst he_k
 refine ac ?_
 refine ac ?_
 refine ac ?_
 · exact int_eq (ordF_none hinv_k)
theorem e_FOrder : Entry Tryz.prog 197 := ⟨_, Tryz.func197, rfl, rfl⟩
end Go.Proofs.YtppeeogffbpcbaaGreat
