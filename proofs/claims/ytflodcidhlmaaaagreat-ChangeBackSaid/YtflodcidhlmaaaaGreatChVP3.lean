/-
  Part 3 of the texts that prove this claim, merged.
-/
import Derived.Sort.LotA
import Derived.Sort.LotB
import Derived.Sort.LotC
import Derived.Lib.AppendZeros
import Derived.Lib.AppendZerosOnto
import Derived.Lib.Bytealg
import Derived.Test.YtflodcidhlmaaaaGreatChVP2
set_option linter.all false
namespace Cp
open Go Go.RowKit Go.Great

section
variable {P : Program} {n : Nat} {E : Env} {M0 : Av} {w0 : World} {S : Nat → Prop} {rs : List Res} {o : Oper} {β : Type} {b : Nat} {e : TypeId} {f : β → List Pr} {qs : List Pr} {Φ : List β → Prop}
instance (priority := 300) nrm_nott (b : Bool) (p : Prop) [h : Nrm b false p] : Nrm (!b) true p := ⟨fun e => h.nrm (by simpa using e)⟩
instance (priority := 300) nrm_notf (b : Bool) (p : Prop) [h : Nrm b true p] : Nrm (!b) false p := ⟨fun e => h.nrm (by simpa using e)⟩
end
end Cp
namespace Cp
open Go.Sort

section
variable {β : Type} [Inhabited β] {c : β × β → Int} {st : List β} {a b i j : Int}
def ltc (c : β × β → Int) (x y : β) : Bool := decide (c (x, y) < 0)
theorem gx (h : i.toNat < st.length) : st.toArray[i.toNat]! = st[i.toNat] := by simp [h]
theorem sw (hi : i.toNat < st.length) (hj : j.toNat < st.length) : ((st.set i.toNat (st[j.toNat]'hj)).set j.toNat (st[i.toNat]'hi)).toArray = swp st.toArray i.toNat j.toNat := by
  unfold swp
  rw [gx hi, gx hj]
  simp [Array.setIfInBounds_def, hi, hj]
omit [Inhabited β] in
theorem lt_no {x y : β} (h : ¬ c (x, y) < 0) : ltc c x y = false := decide_eq_false h

variable {hi F r : Int}
variable {lt : β → β → Bool} {a0 b0 m n : Nat} {l s s' : Array β}
structure PS (lt : β → β → Bool) (a0 b0 a b : Nat) (l s : Array β) : Prop where
  ha : a0 ≤ a
  hab : a ≤ b
  hb : b ≤ b0
  hp : PermIn a0 b0 l s
  below : Below lt a b s
  out : ∀ i j, a0 ≤ i → i < j → j < b0 → (i < a ∨ b ≤ j) → lt s[j]! s[i]! = false
theorem PS.perm (h : PS lt a0 b0 m n l s) (hs : b0 ≤ l.size) (hq : PermIn m n s s') : PS lt a0 b0 m n l s' := by
  have hsz : s.size = l.size := h.hp.1
  have hns : n ≤ s.size := by have := h.hb; omega
  refine ⟨h.ha, h.hab, h.hb, permIn_trans _ _ _ _ _ h.hp (permIn_mono _ _ _ _ _ _ h.ha h.hb (by omega) hq), Below.permA permIn_all hns h.below hq, fun i j h1 h2 h3 h4 => ?_⟩
  have hm := h.hab
  by_cases hi : m ≤ i ∧ i < n
  · have hj : n ≤ j := by omega
    rw [hq.2.1 j (.inr hj)]
    exact permIn_all s s' m n (fun x => lt s[j]! x = false) hns hq (fun k hk1 hk2 => h.out k j (by have := h.ha; omega) (by omega) h3 (.inr hj)) i hi.1 hi.2
  · rw [hq.2.1 i (by omega)]
    by_cases hj : m ≤ j ∧ j < n
    · exact permIn_all s s' m n (fun x => lt x s[i]! = false) hns hq (fun k hk1 hk2 => h.out i k h1 (by omega) (by have := h.hb; omega) (.inl (by omega))) j hj.1 hj.2
    · rw [hq.2.1 j (by omega)]; exact h.out i j h1 h2 h3 h4
theorem PS.done (h : PS lt a0 b0 m n l s) (hs : SortedIn lt m n s) : PermIn a0 b0 l s ∧ SortedIn lt a0 b0 s := by
  refine ⟨h.hp, fun i j h1 h2 h3 => ?_⟩
  by_cases hh : i < m ∨ n ≤ j
  · exact h.out i j h1 h2 h3 hh
  · exact hs i j (by omega) h2 (by omega)
theorem PS.eq (hw : SWO lt) (h : PS lt a0 b0 m n l s) (hs : b0 ≤ l.size) {pv : β} {k : Nat} (hm : 0 < m) (hpv : lt s[m - 1]! pv = false) (hk : m < k) (hkn : k ≤ n) (hq : PermIn m n s s') (h1 : ∀ i, m ≤ i → i < k → lt pv s'[i]! = false) (h2 : ∀ i, k ≤ i → i < n → lt pv s'[i]! = true) :
    PS lt a0 b0 k n l s' := by
  have h' := h.perm hs hq
  have hle : ∀ j, m ≤ j → j < n → lt s'[j]! pv = false := by
    intro j hj1 hj2
    by_cases hjk : k ≤ j
    · exact hw.asym (h2 j hjk hj2)
    · have hb := h'.below
      rcases hb with hb | hb
      · omega
      · have hb := hb j hj1 hj2
        rw [hq.2.1 (m - 1) (.inl (by omega))] at hb
        exact hw.ntrans _ _ _ hb hpv
  have key : ∀ i j, m ≤ i → i < k → m ≤ j → j < n → lt s'[j]! s'[i]! = false := fun i j ha hb hc hd => hw.ntrans _ _ _ (hle j hc hd) (h1 i ha hb)
  refine ⟨by have := h.ha; omega, hkn, h.hb, h'.hp, .inr fun i hi1 hi2 => key (k - 1) i (by omega) (by omega) (by omega) hi2, fun i j g1 g2 g3 g4 => ?_⟩
  by_cases hh : i < m ∨ n ≤ j
  · exact h'.out i j g1 g2 g3 hh
  · exact key i j (by omega) (by omega) (by omega) (by omega)
/-- What a partition yields. -/
structure Parted (lt : β → β → Bool) (m n k : Nat) (s : Array β) : Prop where
  h1 : m ≤ k
  h2 : k < n
  lo : ∀ i, m ≤ i → i < k → lt s[i]! s[k]! = true
  up : ∀ i, k < i → i < n → lt s[i]! s[k]! = false
theorem PS.left (hw : SWO lt) {k : Nat} (h : PS lt a0 b0 m n l s) (hs : b0 ≤ l.size) (hp : Parted lt m n k s) (hq : PermIn m k s s') (hso : SortedIn lt m k s') : PS lt a0 b0 (k + 1) n l s' := by
  obtain ⟨h1, h2, lo, up⟩ := hp
  have hsz : s.size = l.size := h.hp.1
  have hks : k ≤ s.size := by have := h.hb; omega
  have hq2 : PermIn m n s s' := permIn_mono _ _ _ _ _ _ (Nat.le_refl _) (by omega) (by have := h.hb; omega) hq
  have h' := h.perm hs hq2
  have ek : s'[k]! = s[k]! := hq.2.1 k (.inr (Nat.le_refl _))
  have lo' : ∀ i, m ≤ i → i < k → lt s'[i]! s[k]! = true := fun i g1 g2 => permIn_all s s' m k (fun x => lt x s[k]! = true) hks hq lo i g1 g2
  have up' : ∀ i, k < i → i < n → lt s'[i]! s[k]! = false := fun i g1 g2 => by rw [hq.2.1 i (.inr (by omega))]; exact up i g1 g2
  refine ⟨by have := h.ha; omega, by omega, h.hb, h'.hp, .inr fun i g1 g2 => ?_, fun i j g1 g2 g3 g4 => ?_⟩
  · rw [show k + 1 - 1 = k by omega, ek]; exact up' i (by omega) g2
  · by_cases hh : i < m ∨ n ≤ j
    · exact h'.out i j g1 g2 g3 hh
    · rcases Nat.lt_trichotomy i k with hik | hik | hik
      · rcases Nat.lt_trichotomy j k with hjk | hjk | hjk
        · exact hso i j (by omega) g2 hjk
        · subst hjk; rw [ek]; exact hw.asym (lo' i (by omega) hik)
        · exact hw.ntrans _ _ _ (up' j hjk (by omega)) (hw.asym (lo' i (by omega) hik))
      · subst hik; rw [ek]; exact up' j g2 (by omega)
      · omega
theorem PS.right (hw : SWO lt) {k : Nat} (h : PS lt a0 b0 m n l s) (hs : b0 ≤ l.size) (hp : Parted lt m n k s) (hq : PermIn (k + 1) n s s') (hso : SortedIn lt (k + 1) n s') : PS lt a0 b0 m k l s' := by
  obtain ⟨h1, h2, lo, up⟩ := hp
  have hsz : s.size = l.size := h.hp.1
  have hns : n ≤ s.size := by have := h.hb; omega
  have hq2 : PermIn m n s s' := permIn_mono _ _ _ _ _ _ (by omega) (Nat.le_refl _) hns hq
  have h' := h.perm hs hq2
  have ek : s'[k]! = s[k]! := hq.2.1 k (.inl (by omega))
  have lo' : ∀ i, m ≤ i → i < k → lt s'[i]! s[k]! = true := fun i g1 g2 => by rw [hq.2.1 i (.inl (by omega))]; exact lo i g1 g2
  have up' : ∀ i, k < i → i < n → lt s'[i]! s[k]! = false := fun i g1 g2 => permIn_all s s' (k + 1) n (fun x => lt x s[k]! = false) hns hq (fun i q1 q2 => up i (by omega) q2) i (by omega) g2
  refine ⟨h.ha, h1, by have := h.hb; omega, h'.hp, ?_, fun i j g1 g2 g3 g4 => ?_⟩
  · rcases h'.below with hb | hb
    · exact .inl hb
    · exact .inr fun i q1 q2 => hb i q1 (by omega)
  · by_cases hh : i < m ∨ n ≤ j
    · exact h'.out i j g1 g2 g3 hh
    · rcases Nat.lt_trichotomy i k with hik | hik | hik
      · rcases Nat.lt_trichotomy j k with hjk | hjk | hjk
        · omega
        · subst hjk; rw [ek]; exact hw.asym (lo' i (by omega) hik)
        · exact hw.ntrans _ _ _ (up' j hjk (by omega)) (hw.asym (lo' i (by omega) hik))
      · subst hik; rw [ek]; exact up' j g2 (by omega)
      · exact hso i j (by omega) g2 (by omega)
end

section
variable {β : Type} [Inhabited β] {c : β × β → Int} {st : List β}
def Adj (c : β × β → Int) (a b : Int) (l : List β) : Prop := ∀ k, a.toNat < k → k < b.toNat → ltc c l.toArray[k]! l.toArray[k - 1]! = false
theorem Adj.go {a i k : Int} (h : Adj c a i st) (h0 : 0 ≤ a) (ha : a < i) (hk : k = i - 1) (hi : i.toNat < st.length) (hk' : k.toNat < st.length) (hc : 0 ≤ c (st[i.toNat]'hi, st[k.toNat]'hk')) : Adj c a (i + 1) st := fun m h1 h2 => by
  rcases Nat.lt_or_ge m i.toNat with hm | hm
  · exact h m h1 hm
  · have e : m = i.toNat := by omega
    subst e
    rw [show i.toNat - 1 = k.toNat by omega, gx hi, gx hk']; exact lt_no (by omega)
end

section
variable {β : Type} [Inhabited β]
/-- Elements from a on, up to b, were exchanged among themselves. -/
def PermL (a b : Int) (l st : List β) : Prop := PermIn a.toNat b.toNat l.toArray st.toArray
/-- And are ascending there. -/
def SortL (c : β × β → Int) (a b : Int) (l st : List β) : Prop := PermIn a.toNat b.toNat l.toArray st.toArray ∧ SortedIn (ltc c) a.toNat b.toNat st.toArray
theorem PermL.len {a b : Int} {l st : List β} (h : PermL a b l st) : st.length = l.length := by have := h.1; simpa using this
theorem SortL.len {c : β × β → Int} {a b : Int} {l st : List β} (h : SortL c a b l st) : st.length = l.length := by have := h.1.1; simpa using this
def SiftL (c : β × β → Int) (hi first lo : Int) (l st : List β) : Prop := st.length = l.length ∧ st.toArray = siftDown (ltc c) hi.toNat first.toNat lo.toNat l.toArray
theorem SiftL.len {c : β × β → Int} {hi first lo : Int} {l st : List β} (h : SiftL c hi first lo l st) : st.length = l.length := h.1
abbrev PE (c : β × β → Int) (a b pv : Int) (l : List β) : Nat × Array β := partitionEqual (ltc c) l.toArray a.toNat b.toNat pv.toNat
abbrev PA (c : β × β → Int) (a b pv : Int) (l : List β) : Nat × Bool × Array β := partition (ltc c) l.toArray a.toNat b.toNat pv.toNat
def PartE (c : β × β → Int) (a b pv : Int) (l st : List β) : Prop := st.length = l.length ∧ st.toArray = (PE c a b pv l).2
def PartL (c : β × β → Int) (a b pv : Int) (l st : List β) : Prop := st.length = l.length ∧ st.toArray = (PA c a b pv l).2.2
theorem PartE.len {c : β × β → Int} {a b pv : Int} {l st : List β} (h : PartE c a b pv l st) : st.length = l.length := h.1
theorem PartL.len {c : β × β → Int} {a b pv : Int} {l st : List β} (h : PartL c a b pv l st) : st.length = l.length := h.1
theorem PermL.refl (a b : Int) (l : List β) : PermL a b l l := permIn_refl _ _ _
theorem PermL.swap {a b i j : Int} {l st : List β} (h : PermL a b l st) (hi : i.toNat < st.length) (hj : j.toNat < st.length) (h1 : a.toNat ≤ i.toNat) (h2 : i.toNat < b.toNat) (h3 : a.toNat ≤ j.toNat) (h4 : j.toNat < b.toNat) (hb : b.toNat ≤ l.length) :
    PermL a b l ((st.set i.toNat (st[j.toNat]'hj)).set j.toNat (st[i.toNat]'hi)) := by
  unfold PermL
  rw [sw hi hj]
  exact permIn_trans _ _ _ _ _ h (swp_permIn _ _ _ _ _ h1 h2 h3 h4 (by have := h.len; simp; omega))
theorem PermL.trans {a b : Int} {l m st : List β} (h : PermL a b l m) (k : PermL a b m st) : PermL a b l st := permIn_trans _ _ _ _ _ h k
end
section
open Go
variable {P : Program} {n : Nat} {E : Env} {M0 : Av} {w0 : World} {S : Nat → Prop} {rs : List Res} {new : Bool} {b : Nat} {T : TypeId} {ps : List Pr}
theorem St.leC (j : Nat) (qs : List Pr) (hj : rs[j]? = some (cellsRes new b T ps)) (hl : LeL ps qs) {a : Act} {w : World} (h : St n E (Hp M0 w0 S rs) a w) : St n E (Hp M0 w0 S (rs.set j (cellsRes new b T qs))) a w := by
  obtain ⟨M, h1, h2, h3, h4⟩ := h
  have h4 : HpH M0 w0 S rs M w := h4
  obtain ⟨hM, cs, hb, hc, ho⟩ := (h4.hold _ (List.mem_of_getElem? hj)).1
  exact ⟨M, h1, h2, h3, h4.swap1 hj rfl rfl ⟨hM, cs, hb, hl.hl hc, ho⟩⟩
theorem Tr.leC {Q : Exit → Act → World → Prop} {c : Code} (j : Nat) (qs : List Pr) (hj : rs[j]? = some (cellsRes new b T ps)) (hl : LeL ps qs) (k : Tr P n E (Hp M0 w0 S (rs.set j (cellsRes new b T qs))) c Q) : Tr P n E (Hp M0 w0 S rs) c Q := Tr.conv (fun _ _ hs => hs.leC j qs hj hl) k
end
end Cp
namespace Cp
open Go Go.RowKit Go.Great
section
variable {P : Program} {n : Nat} {E : Env} {I : Asn} {Q : Exit → Act → World → Prop}
end
end Cp
namespace Cp
open Go Go.RowKit Go.Great
section
variable {P : Program} {n : Nat} {E : Env} {M0 : Av} {w0 : World} {S : Nat → Prop} {rs : List Res} {β : Type} {e : TypeId} {sz : Nat} {f : β → List Pr} {Φ : List β → Prop} {v : Value}
end
end Cp
namespace Cp
open Go Go.RowKit Go.Great
section
variable {P : Program} {n : Nat} {E : Env} {M0 : Av} {w0 : World} {S : Nat → Prop} {rs : List Res} {o : Oper}
end
end Cp
namespace Cp
open Go Go.RowKit Go.Great
section
variable {P : Program} {n : Nat} {E : Env} {M0 : Av} {w0 : World} {S : Nat → Prop} {rs : List Res} {ε : Type} {res : ε → List Res}
theorem St.perm {rs' : List Res} (hp : rs.Perm rs') {a : Act} {w : World} (h : St n E (Hp M0 w0 S rs) a w) : St n E (Hp M0 w0 S rs') a w := by
  obtain ⟨M, h1, h2, h3, h4⟩ := h
  exact ⟨M, h1, h2, h3, HpH.perm hp h4⟩
theorem St.closeG {e : TypeId} {sz b cap m : Nat} {rows : List (List Pr)} {sp : List Value} (j : Nat) (hj : rs[j]? = some (cellsRes true b e (rows.flatten ++ sp.map is))) (hm : rows.length = m) (h1 : m ≤ cap) (h2 : cap ≤ maxLen) (h3 : sp.length = (cap - m) * sz) {a : Act} {w : World} (h : St n E (Hp M0 w0 S rs) a w) : St n E (Hp M0 w0 S (rs.set j (ownRes e sz rows (.slice (some ⟨b, 0, none⟩) m cap)))) a w := by
  subst hm
  obtain ⟨M, g1, g2, g3, g4⟩ := h
  have g4 : HpH M0 w0 S rs M w := g4
  exact ⟨M, g1, g2, g3, g4.swap1 hj rfl rfl (.inr ⟨b, cap, sp, rfl, h1, h2, h3, (g4.hold _ (List.mem_of_getElem? hj)).1⟩)⟩
theorem Fin.closeG {Q : Exit → Act → World → Prop} {x : Exit} {e : TypeId} {sz b cap m : Nat} {rows : List (List Pr)} {sp : List Value} (j : Nat) (hj : rs[j]? = some (cellsRes true b e (rows.flatten ++ sp.map is))) (hm : rows.length = m) (h1 : m ≤ cap) (h2 : cap ≤ maxLen) (h3 : sp.length = (cap - m) * sz)
    (k : Fin n E (Hp M0 w0 S (rs.set j (ownRes e sz rows (.slice (some ⟨b, 0, none⟩) m cap)))) Q x) : Fin n E (Hp M0 w0 S rs) Q x := Fin.conv (fun _ _ hs => hs.closeG j hj hm h1 h2 h3) k
end
end Cp
namespace Cp
open Go Go.RowKit Go.Great
section
variable {P : Program} {n : Nat} {E : Env} {M0 : Av} {w0 : World} {S : Nat → Prop} {rs : List Res} {o : Oper}
theorem run_copy_rows {w : World} {dT sT ty e : TypeId} {g off dLen dCap sLen sCap sz m : Nat} {a : Addr} {cur : Array Value} {t : TypeId} {cs : List Value} (hu : P.underlying dT = some (.slice e)) (hz : sizeB P e = some sz)
    (hg : w.heap[g]? = some (.cells cur t (0, 0))) (hm : m = Nat.min sLen dLen) (hn : cs.length = m * sz) (hsrc : ∀ j v, cs[j]? = some v → w.cell? (a.add j) = some v) (hfit : off + cs.length ≤ cur.size) (h1 : ∀ v ∈ cs, v.oneCell' = true) :
    (Builtin.copy_ #[dT, sT] ty #[.slice (some ⟨g, off, none⟩) dLen dCap, .slice (some a) sLen sCap]).run P w = .ok (goInt m) (w.setRow g (cur.toList.take off ++ cs ++ cur.toList.drop (off + cs.length)).toArray) := by
  have hl := run_loadCells_list (P := P) w a cs hsrc
  have hst := run_storeCells_at P g off t cs 0 cur w hg (by simpa using hfit) h1
  unfold sizeB at hz
  cases hq : P.info? e with
  | none => rw [hq] at hz; cases hz
  | some i =>
    have hi : i.size = sz := by simpa [hq] using hz
    rw [hn] at hl
    simp [Builtin.copy_, run_underlying hu, Builtin.lenOf, Builtin.firstCells, Go.sizeOf, typeInfo, hq, hi, ← hm, hl, hst]
/-- copy from a slice that is read. -/
theorem ef_copyS {dT sT e : TypeId} {x y : Operand} {j : Nat} {new : Bool} {b off m cap sz d : Nat} {T : TypeId} {ps ps' : List Pr} {rows : List (List Pr)} (hg : o.guard = none) (hd : o.dst = some d) (ho : o.op = .call { callee := .builtin .copy, args := #[x, y], argTypes := #[dT, sT] })
    (ht : P.underlying dT = some (.slice e)) (hz : sizeB P e = some sz) (hsz : 0 < sz) (hx : VL E x (is (.slice (some ⟨b, off, none⟩) m cap))) (hy : VL E y (slice sz rows)) (hpos : 0 < rows.length) (hm : rows.length ≤ m) (hl : off + rows.length * sz ≤ ps.length)
    (hps : ps.take off ++ rows.flatten ++ ps.drop (off + rows.length * sz) = ps') : OpEf P M0 w0 S n j (SR.c (cellsRes new b T ps)) (SR.c (cellsRes new b T ps')) o E (int (rows.length : Nat)) := by
  refine ⟨hg, fun M w a rs hszn he hI hj => ?_⟩
  have h1 : a.eval x = _ := hx.ev he (by simp [ho, Op.operands, Call.operands])
  have h2 := hy.ev he (by simp [ho, Op.operands, Call.operands])
  obtain ⟨⟨_, cs, h4, h5, h6⟩, _⟩ := hI.hold _ (List.mem_of_getElem? hj)
  have h5l := h5.length
  have h2' := h2
  obtain ⟨A', c', hv, hmc, hcm', hA', hrows'⟩ := h2
  obtain ⟨ad', rfl⟩ : ∃ ad', A' = some ad' := by
    obtain ⟨_, b, hb, _⟩ := hrows' 0 _ (List.getElem?_eq_getElem hpos)
    exact ⟨b, hb⟩
  rw [hv] at h2'
  obtain ⟨news, hfl, hcell⟩ := slice_flat hsz h2'
  have hnl := hfl.1
  have hrun := run_copy_rows (P := P) (w := w) (sT := sT) (ty := o.type) (g := b) (off := off) (dLen := m) (dCap := cap) (sLen := rows.length) (sCap := c') (m := rows.length) (a := ad') (cur := cs.toArray) (t := T) (cs := news) ht hz h4 (Nat.min_eq_left hm).symm hnl (fun k u hk => (hcell k u hk).1) (by simp [hnl]; omega) hfl.2.1
  have hrun2 : (execOp a.eval o).run P w = .ok (.value (goInt rows.length)) (w.setRow b (cs.take off ++ news ++ cs.drop (off + news.length)).toArray) := by
    simp [execOp, ho, h1, hv, resolve, invoke, builtin, hrun]
  rw [hrun2]
  obtain ⟨h7, h8⟩ := HpH.write (qs := ps') (cs := cs.take off ++ news ++ cs.drop (off + news.length)) hI hj (by rw [← hps, hnl]; exact ((h5.take off).app (hfl.hl hsz)).app (h5.drop _))
    (fun c hc => by
      simp only [List.mem_append] at hc
      rcases hc with (hc | hc) | hc
      · exact h6 c (List.mem_of_mem_take hc)
      · exact hfl.2.1 c hc
      · exact h6 c (List.mem_of_mem_drop hc))
  exact ⟨M, rfl, h8, h7⟩
/-- copy within one block of ours: m rows from off2 to off. -/
theorem ef_copyB {dT sT e : TypeId} {x y : Operand} {j : Nat} {new : Bool} {b off off2 m dl cap cap2 sz d : Nat} {T : TypeId} {ps ps' : List Pr} (hg : o.guard = none) (hd : o.dst = some d) (ho : o.op = .call { callee := .builtin .copy, args := #[x, y], argTypes := #[dT, sT] })
    (ht : P.underlying dT = some (.slice e)) (hz : sizeB P e = some sz) (hx : VL E x (is (.slice (some ⟨b, off, none⟩) dl cap))) {sl : Nat} (hy : VL E y (is (.slice (some ⟨b, off2, none⟩) sl cap2))) (hm : m = Nat.min sl dl) (hl : off + m * sz ≤ ps.length) (hl2 : off2 + m * sz ≤ ps.length)
    (hps : ps.take off ++ (ps.drop off2).take (m * sz) ++ ps.drop (off + m * sz) = ps') : OpEf P M0 w0 S n j (SR.c (cellsRes new b T ps)) (SR.c (cellsRes new b T ps')) o E (int (m : Nat)) := by
  refine ⟨hg, fun M w a rs hszn he hI hj => ?_⟩
  have h1 : a.eval x = _ := hx.ev he (by simp [ho, Op.operands, Call.operands])
  have h2 : a.eval y = _ := hy.ev he (by simp [ho, Op.operands, Call.operands])
  obtain ⟨⟨_, cs, h4, h5, h6⟩, _⟩ := hI.hold _ (List.mem_of_getElem? hj)
  have h5l := h5.length
  have hnl : ((cs.drop off2).take (m * sz)).length = m * sz := by rw [List.length_take, List.length_drop]; omega
  have hrun := run_copy_rows (P := P) (w := w) (sT := sT) (ty := o.type) (g := b) (off := off) (dLen := dl) (dCap := cap) (sLen := sl) (sCap := cap2) (m := m) (a := ⟨b, off2, none⟩) (cur := cs.toArray) (t := T) (cs := (cs.drop off2).take (m * sz)) ht hz h4 hm hnl (fun k u hk => by
      rw [addr_add]
      rw [List.getElem?_take] at hk
      split at hk
      · rw [List.getElem?_drop] at hk; simp [World.cell?, h4, hk]
      · cases hk) (by simp [hnl]; omega) (fun v hv => h6 v (List.mem_of_mem_drop (List.mem_of_mem_take hv)))
  have hrun2 : (execOp a.eval o).run P w = .ok (.value (goInt m)) (w.setRow b (cs.take off ++ (cs.drop off2).take (m * sz) ++ cs.drop (off + ((cs.drop off2).take (m * sz)).length)).toArray) := by
    simp [execOp, ho, h1, h2, resolve, invoke, builtin, hrun]
  rw [hrun2]
  obtain ⟨h7, h8⟩ := HpH.write (qs := ps') (cs := cs.take off ++ (cs.drop off2).take (m * sz) ++ cs.drop (off + ((cs.drop off2).take (m * sz)).length)) hI hj (by rw [← hps, hnl]; exact ((h5.take off).app ((h5.drop off2).take _)).app (h5.drop _))
    (fun c hc => by
      simp only [List.mem_append] at hc
      rcases hc with (hc | hc) | hc
      · exact h6 c (List.mem_of_mem_take hc)
      · exact h6 c (List.mem_of_mem_drop (List.mem_of_mem_take hc))
      · exact h6 c (List.mem_of_mem_drop hc))
  exact ⟨M, rfl, h8, h7⟩
theorem run_overlaps_own {w : World} {tS tR e : TypeId} (ht : P.underlying tS = some (.slice e)) {size : Nat} (hz : ∀ w, (Go.sizeOf e).run P w = .ok size w) {a b : Addr} {la ca lb cb : Nat} (hne : a.block ≠ b.block) {tA tB : TypeId} {kA kB : Nat}
    (hsa : w.shape? a.block = some (tA, kA + 1)) (hsb : w.shape? b.block = some (tB, kB + 1)) (hfb : ∀ c : Addr, c.block = b.block → w.frozen? c = false) :
    (Extern.SlicesOverlaps.overlaps #[tS, tS] #[tR] #[.slice (some a) la ca, .slice (some b) lb cb]).run P w = .ok (.bool false) w := by
  have hnb : (a.block != b.block) = true := by simpa using hne
  have hnb' : (a.block == b.block) = false := by simpa using hne
  have hf1 := hfb b rfl
  have hf2 := hfb { block := b.block, off := kB + 1 } rfl
  change Sem.run P (α := Value) (do
    let some t := (#[tS, tS] : Array TypeId)[0]? | stuck "slices.overlaps: no parameter types"
    let .slice elem ← underlying t | stuck "slices.overlaps: slice type expected"
    let size ← sizeOf elem
    match (some a : Option Addr), (some b : Option Addr) with
    | some a, some b =>
      if la = 0 ∨ lb = 0 ∨ size = 0 then pure (Value.bool false)
      else if a.block != b.block && (← frozen a) && (← frozen b) then unsupported .addressObserved
      else do
        if a.block != b.block then do
          noView a; noView b
          if ← mayBeOne a b then return Value.bool ((← choose (.extern "sameAddr.stringBytes" 2)) == 1)
        pure (Value.bool (a.block == b.block && a.off < b.off + lb * size && b.off < a.off + la * size))
    | _, _ => pure (Value.bool false)) w = _
  by_cases h0 : la = 0 ∨ lb = 0 ∨ size = 0
  · simp [run_underlying ht, hz, h0]
  · cases hfa : w.frozen? a <;> cases hfa2 : w.frozen? { block := a.block, off := kA + 1 } <;>
      simp [run_underlying ht, hz, h0, hnb, hnb', frozen, noView, viewAt, mayBeOne, stringish, shape, Sem.run, hsa, hsb, hfa, hfa2, hf1, hf2]
theorem cell_shape {w : World} {a : Addr} {v : Value} (h : w.cell? a = some v) : ∃ t k, w.shape? a.block = some (t, k + 1) := by
  unfold World.cell? at h
  unfold World.shape?
  split at h
  · rename_i c t mk hh
    have hc : c[a.off]? = some v := by
      split at h
      · cases h
      · exact h
    have : a.off < c.size := by
      rcases Nat.lt_or_ge a.off c.size with h' | h'
      · exact h'
      · rw [Array.getElem?_eq_none h'] at hc; cases hc
    exact ⟨t, c.size - 1, by show some (t, c.size) = _; congr 2; omega⟩
  · cases h
theorem rd_overlaps {f : FuncId} {fn : Func} {x y : Operand} {ts : Array TypeId} {tS tR e : TypeId} {rows : List (List Pr)} {j : Nat} {new : Bool} {b off m cap sz : Nat} {T : TypeId} {ps : List Pr} (ho : o.op = .call { callee := .value (.func f), args := #[x, y], argTypes := ts }) (hf : P.funcs[f]? = some fn) (hname : (fn.name == "runtime.NumGoroutine") = false)
    (hb : fn.body.isNone = true) (hn : Extern.findNext fn = none) (hex : Extern.find fn = some (Extern.SlicesOverlaps.overlaps #[tS, tS] #[tR])) (ht : P.underlying tS = some (.slice e)) (hz : sizeB P e = some sz) (hsz : 0 < sz) (hx : VL E x (slice sz rows)) (hpos : 0 < rows.length) (hy : VL E y (is (.slice (some ⟨b, off, none⟩) m cap))) (hps : 0 < ps.length) :
    OpRd P M0 w0 S j (SR.c (cellsRes new b T ps)) o E (bool false) := by
  intro M w a rs he hI hj
  have h1 := hx.ev he (by simp [ho, Op.operands, Call.operands])
  have h2 : a.eval y = _ := hy.ev he (by simp [ho, Op.operands, Call.operands])
  obtain ⟨⟨hM, cs, h4, h5, h6⟩, _⟩ := hI.hold _ (List.mem_of_getElem? hj)
  have h5l := h5.length
  obtain ⟨A', c', hv, hmc, hcm', hA', hrows'⟩ := h1
  obtain ⟨hlen, ad', rfl, hrow⟩ := hrows' 0 _ (List.getElem?_eq_getElem hpos)
  obtain ⟨p0, hp0⟩ : ∃ p0, rows[0][0]? = some p0 := ⟨_, List.getElem?_eq_getElem (by rw [hlen]; exact hsz)⟩
  obtain ⟨u, hu, hnm, _⟩ := hrow 0 p0 hp0
  obtain ⟨tA, kA, hsa⟩ := cell_shape hu
  rw [add_block] at hsa
  have hne : ad'.block ≠ b := fun e1 => hnm (by rw [e1]; exact hM _)
  have hsb : w.shape? b = some (T, (cs.length - 1) + 1) := by unfold World.shape?; rw [h4]; show some (T, cs.toArray.size) = _; congr 2; simp; omega
  have hfb : ∀ c : Addr, c.block = b → w.frozen? c = false := fun c hc => by unfold World.frozen?; rw [hc, h4]; simp
  have hzr : ∀ w, (Go.sizeOf e).run P w = .ok sz w := fun w => run_size hz w
  have hov := run_overlaps_own (P := P) (w := w) (tR := tR) ht hzr (a := ad') (b := ⟨b, off, none⟩) (la := rows.length) (ca := c') (lb := m) (cb := cap) hne hsa hsb hfb
  have h3 : a.eval (.func f) = .func (.func f) #[] #[] := rfl
  have hrun : (execOp a.eval o).run P w = (callFunc f #[a.eval x, a.eval y]).run P w := by simp [execOp, ho, resolve, Deferred.ofValue, invoke, h3]
  rw [hrun, hv, h2, run_callFunc_extern hf hname hb hn hex, hov]
  exact ⟨rfl, Below.refl _ _⟩
/-- Elements of which the first cells are known. -/
def partRes (e : TypeId) (sz m : Nat) (ps : List Pr) (v : Value) : Res where
  blk := match v with | .slice (some a) _ _ => some a.block | _ => none
  new := true
  h M w := ∃ (b cap : Nat) (sp : List Value), v = .slice (some ⟨b, 0, none⟩) m cap ∧ m ≤ cap ∧ cap ≤ maxLen ∧ ps.length + sp.length = cap * sz ∧ (cellsRes true b e (ps ++ sp.map is)).h M w
  st M w M' w' he hk h := by
    obtain ⟨b, cap, sp, rfl, h1, h2, h3, h4⟩ := h
    exact ⟨b, cap, sp, rfl, h1, h2, h3, (cellsRes true b e (ps ++ sp.map is)).st M w M' w' he hk h4⟩
theorem app_zeros {M : Av} {w : World} {t tn ty e : TypeId} {sz bytes : Nat} {zs : List Value} {i k cap b : Nat} {j j2 : Nat} {kn : IntKind} {T : TypeId} {ps : List Pr} (ht : P.underlying t = some (.slice e)) (htn : P.underlying tn = some (.int kn)) (hz : sizeB P e = some sz) (hby : bytesB P e = some bytes) (hze : zeroB P e = some zs) (hzl : zs.length = sz) (hone : zs.all (·.oneCell') = true) (hsz : 0 < sz)
    (h : HpH M0 w0 S rs M w) (hj : rs[j]? = some noRes) (hj2 : rs[j2]? = some (cellsRes true b T ps)) (hil : i * sz ≤ ps.length) (hk : 0 < k) (hg : cap < i + k) (hmax : i + k ≤ maxLen) (hfit : (i + k) * bytes ≤ 140737488355328) :
    ∃ v' w' M', (Builtin.append_ #[t, tn] ty #[.slice (some ⟨b, 0, none⟩) i cap, .int .i64 (k : Nat)]).run P w = .ok v' w' ∧ (lens (i + k)).h M' w' v' ∧ Ext M w M' w' ∧ HpH M0 w0 S (rs.set j (partRes e sz (i + k) (ps.take (i * sz)) v')) M' w' := by
  obtain ⟨⟨_, cs0, g4, g5, g6⟩, _⟩ := h.hold _ (List.mem_of_getElem? hj2)
  have g5l := g5.length
  unfold sizeB at hz
  unfold bytesB at hby
  unfold zeroB at hze
  cases hi : P.info? e with
  | none => rw [hi] at hz; cases hz
  | some ii =>
    rw [hi] at hz hby hze
    simp only [Option.map_some, Option.some.injEq, Option.map_eq_some_iff] at hz hby hze
    obtain ⟨z, hzz, hze⟩ := hze
    have hzc : z.cells.size = sz := by rw [← hzl, ← hze]; simp
    have hol : (cs0.take (i * sz)).length = i * sz := by rw [List.length_take]; omega
    have hold : (Builtin.firstCells ii.size i (.slice (some ⟨b, 0, none⟩) i cap)).run P w.drew = .ok (cs0.take (i * sz)).toArray w.drew := by
      have := run_loadCells_list (P := P) w.drew ⟨b, 0, none⟩ (cs0.take (i * sz)) (fun q u hq => by
        rw [addr_add]
        rw [List.getElem?_take] at hq
        split at hq
        · have hh : w.drew.heap[b]? = some (.cells cs0.toArray T (0, 0)) := g4
          simp [World.cell?, hh, hq]
        · cases hq)
      rw [hol] at this
      simp only [Builtin.firstCells, hz]
      rw [Nat.mul_comm] at this ⊢
      first | exact this | (simp; exact this)
    have hrun := Lib.run_append_grow_zeros (P := P) w t tn ty e ii z .i64 kn ht htn hi hzz (some ⟨b, 0, none⟩) i cap (cs0.take (i * sz)) hold k hk (by rw [hz]; exact hsz) hg (by unfold maxLen at hmax; omega) (by rw [hby]; have := Nat.mul_le_mul_right bytes (show k ≤ i + k by omega); omega) (by rw [hby]; exact growslice_fits hg hfit)
    generalize hcap : grownCap w (i + k) cap e = cap' at hrun
    have hge : i + k ≤ cap' := by rw [← hcap]; exact grownCap_ge _ _ _ _
    have hle : cap' ≤ maxLen := by rw [← hcap]; exact grownCap_le_maxLen _ _ _ _ hmax
    generalize hzc1 : Builtin.zeroCells z.cells k = z1 at hrun
    generalize hzc2 : Builtin.zeroCells z.cells (cap' - (i + k)) = z2 at hrun
    have hz1 : z1.size = k * sz := by rw [← hzc1, size_zeroCells, hzc]
    have hz2 : z2.size = (cap' - (i + k)) * sz := by rw [← hzc2, size_zeroCells, hzc]
    have ho1 : ∀ c ∈ z1.toList, c.oneCell' = true := by rw [← hzc1]; exact zeroCells_one hze hone
    have ho2 : ∀ c ∈ z2.toList, c.oneCell' = true := by rw [← hzc2]; exact zeroCells_one hze hone
    generalize hcs : ((cs0.take (i * sz)).toArray ++ z1 ++ z2) = cs at hrun
    have hcsl : cs.toList = cs0.take (i * sz) ++ (z1.toList ++ z2.toList) := by rw [← hcs]; simp
    have hone' : ∀ c ∈ cs.toList, c.oneCell' = true := by
      intro c hc
      rw [hcsl] at hc
      simp only [List.mem_append] at hc
      rcases hc with hc | hc | hc
      · exact g6 c (List.mem_of_mem_take hc)
      · exact ho1 c hc
      · exact ho2 c hc
    have hb : Below w.heap.size w (w.drew.alloc (.cells cs e)) := ((Below.refl _ _).drew).alloc (Nat.le_refl _) _
    have h2 := Ext.below (M := M) hb
    have hext : Ext M w (fun b o => M b o ∨ b = w.heap.size) (w.drew.alloc (.cells cs e)) := by
      refine ⟨h2.size, fun a v hc hm => ⟨fun hx => ?_, (h2.keep a v hc hm).2⟩, fun b o ho hp hm => ⟨fun hx => ?_, (h2.obj b o ho hp hm).2⟩⟩
      · rcases hx with hx | hx
        · exact hm hx
        · have := cell_lt hc; omega
      · rcases hx with hx | hx
        · exact hm hx
        · subst hx; simp at ho
    have hs1 : (w.drew.alloc (.cells cs e)).heap.size = w.heap.size + 1 := by simp
    refine ⟨_, _, fun b o => M b o ∨ b = w.heap.size, hrun, ⟨_, _, rfl⟩, hext, ?_⟩
    refine h.replace hj hext hb.os hb.tape hb.output (fun k hk _ => hb.block k hk) rfl (fun b o hm _ => .inl hm) (fun b o hx => ?_) ?_ rfl (fun b hbk => ?_)
    · rcases hx with hx | hx
      · have := h.bd _ _ hx; omega
      · omega
    · refine ⟨w.heap.size, cap', z1.toList ++ z2.toList, rfl, hge, hle, ?_, fun o => .inr rfl, cs.toList, ?_, ?_, hone'⟩
      · rw [List.length_take, Nat.min_eq_left hil, List.length_append, Array.length_toList, Array.length_toList, hz1, hz2, ← Nat.add_mul, ← Nat.add_mul]; congr 1; omega
      · have hh : (w.drew.alloc (.cells cs e)).heap[w.heap.size]? = some (.cells cs e (0, 0)) := heap_alloc_new w.drew _
        rw [hh]
      · rw [hcsl]; exact ((g5.take _).st hext).app (hl_is _ _ _)
    · have hbk' : some w.heap.size = some b := hbk
      injection hbk' with e1
      subst e1
      exact ⟨by rw [hs1]; omega, .inr (Nat.le_refl _)⟩
theorem TO.appzs {Q : Exit → Act → World → Prop} {ops : Array Oper} {r : List Oper} {t tn e : TypeId} {x y : Operand} (j j2 : Nat) {sz bytes d : Nat} {zs : List Value} {i k cap b : Nat} {kk : Int} {kn : IntKind} {T : TypeId} {ps : List Pr} (hj : rs[j]? = some noRes) (hj2 : rs[j2]? = some (cellsRes true b T ps)) (hg : o.guard = none) (hd : o.dst = some d) (hn : d < n) (ho : o.op = .call { callee := .builtin .append, args := #[x, y], argTypes := #[t, tn] })
    (ht : P.underlying t = some (.slice e)) (htn : P.underlying tn = some (.int kn)) (hz : sizeB P e = some sz) (hby : bytesB P e = some bytes) (hze : zeroB P e = some zs) (hzl : zs.length = sz) (hone : zs.all (·.oneCell') = true) (hsz : 0 < sz)
    (hx : VL E x (is (.slice (some ⟨b, 0, none⟩) i cap))) (hy : VL E y (int kk)) (hkk : kk = (k : Nat)) (hil : i * sz ≤ ps.length) (hk : 0 < k) (hgr : cap < i + k) (hmax : i + k ≤ maxLen) (hfit : (i + k) * bytes ≤ 140737488355328)
    (kq : ∀ (b2 cap2 : Nat) (sp : List Value), i + k ≤ cap2 → cap2 ≤ maxLen → (ps.take (i * sz)).length + sp.length = cap2 * sz → TO P n ops r ((d, is (.slice (some ⟨b2, 0, none⟩) (i + k) cap2)) :: E) (Hp M0 w0 S (rs.set j (cellsRes true b2 e (ps.take (i * sz) ++ sp.map is)))) Q) : TO P n ops (o :: r) E (Hp M0 w0 S rs) Q :=
  TO.eff hg fun K M w a hszn hdf he hI hK => by
    have hI : HpH M0 w0 S rs M w := hI
    have hef := looks_env (o := o) he
    have h1 : a.eval x = _ := hx.ev hef (by simp [ho, Op.operands, Call.operands])
    have h2 : a.eval y = .int .i64 kk := hy.ev hef (by simp [ho, Op.operands, Call.operands])
    have hjl : j < rs.length := by rcases Nat.lt_or_ge j rs.length with h | h; exact h; rw [List.getElem?_eq_none h] at hj; cases hj
    obtain ⟨v', w', M', hrun, h3, h4, h5⟩ := app_zeros (ty := o.type) ht htn hz hby hze hzl hone hsz hI hj hj2 hil hk hgr hmax hfit
    have hrun2 : (execOp a.eval o).run P w = .ok (.value v') w' := by rw [hkk] at h2; simp [execOp, ho, resolve, invoke, builtin, h1, h2, hrun]
    obtain ⟨b2, cap2, sp, rfl, q1, q2, q3, q4⟩ := (h5.hold _ (List.mem_of_getElem? (List.getElem?_set_self hjl))).1
    have h6 : HpH M0 w0 S (rs.set j (cellsRes true b2 e (ps.take (i * sz) ++ sp.map is))) M' w' := by
      have := h5.swap1 (r' := cellsRes true b2 e (ps.take (i * sz) ++ sp.map is)) (List.getElem?_set_self hjl) rfl rfl q4
      rwa [List.set_set] at this
    have hgv : GivesR P M0 w0 S o a M w (is (.slice (some ⟨b2, 0, none⟩) (i + k) cap2)) j (SR.c (cellsRes true b2 e (ps.take (i * sz) ++ sp.map is))) rs ((execOp a.eval o).run P w) := by
      rw [hrun2]; exact ⟨M', rfl, h4, h6⟩
    refine step_ef hgv fun v w'' M'' hv hxt hI' => hK _ _ _ _ (kq b2 cap2 sp q1 q2 q3) ⟨M'', by rw [put_size]; exact hszn, by rw [put_defers]; exact hdf, ?_, hI'⟩
    intro s q hq
    simp only [List.lookup] at hq
    by_cases hs : s = d
    · subst hs; simp at hq; subst hq; rw [hd, put_same (by rw [hszn]; exact hn)]; exact hv
    · rw [show (s == d) = false by simpa using hs] at hq; rw [hd, put_other hs]; exact q.st _ _ _ _ _ hxt (he s q hq)
end
end Cp
namespace Cp
open Go Go.RowKit Go.Great
section
variable {P : Program} {n : Nat} {E : Env} {M0 : Av} {w0 : World} {S : Nat → Prop} {rs : List Res} {o : Oper}
theorem okb_cap {I : Asn} {t e : TypeId} {x : Operand} {A : Option Addr} {m cap : Nat} (ho : o.op = .call { callee := .builtin .cap, args := #[x], argTypes := #[t] }) (ht : P.underlying t = some (.slice e)) (hx : VL E x (is (.slice A m cap))) : OpOK P I o E (int cap) :=
  OpOK.same fun M w a he _ => by
    have h1 : a.eval x = _ := hx.ev he (by simp [ho, Op.operands, Call.operands])
    exact ⟨.int .i64 cap, by simp [execOp, ho, resolve, invoke, builtin, Builtin.cap_, h1, run_underlying ht, goInt], rfl⟩
theorem okb_sliceCap {I : Asn} {t e : TypeId} {x y : Operand} {k : IntKind} {h : Int} {sz b m cap : Nat} (ho : o.op = .slice t x none (some y) none) (ht : P.underlying t = some (.slice e)) (hz : sizeB P e = some sz) (hx : VL E x (is (.slice (some ⟨b, 0, none⟩) m cap))) (hy : VL E y (is (.int k h))) (h0 : 0 ≤ h) (hl : h ≤ cap) (h1m : 0 < cap) :
    OpOK P I o E (is (.slice (some ⟨b, 0, none⟩) h.toNat cap)) :=
  OpOK.same fun M w a he _ => by
    have h1 : a.eval x = _ := hx.ev he (by simp [ho, Op.operands])
    have h3 : a.eval y = _ := hy.ev he (by simp [ho, Op.operands])
    refine ⟨_, ?_, rfl⟩
    simp [execOp, ho, h1, h3, Instr.sliceAt, Instr.slice, run_underlying ht, Instr.sliceBounds, Instr.sliceBound, asIntOf, h0, hl, run_size hz]
    intro _; rfl
theorem okb_sliceAny {I : Asn} {t e : TypeId} {x y : Operand} {k : IntKind} {l : Int} {sz b m cap : Nat} (ho : o.op = .slice t x (some y) none none) (ht : P.underlying t = some (.slice e)) (hz : sizeB P e = some sz) (hx : VL E x (is (.slice (some ⟨b, 0, none⟩) m cap))) (hy : VL E y (is (.int k l))) (h0 : 0 ≤ l) (hl : l ≤ m) (hc : m ≤ cap) :
    OpOK P I o E (lens (m - l.toNat)) :=
  OpOK.same fun M w a he _ => by
    have h1 : a.eval x = _ := hx.ev he (by simp [ho, Op.operands])
    have h3 : a.eval y = _ := hy.ev he (by simp [ho, Op.operands])
    have hb : l ≤ (m : Int) := by omega
    refine ⟨.slice (if cap = l.toNat then some ⟨b, 0, none⟩ else some ⟨b, l.toNat * sz, none⟩) (m - l.toNat) (cap - l.toNat), ?_, _, _, rfl⟩
    by_cases hne : cap = l.toNat <;>
    simp [execOp, ho, h1, h3, Instr.sliceAt, Instr.slice, run_underlying ht, Instr.sliceBounds, Instr.sliceBound, asIntOf, h0, hb, run_size hz, hne, addr_add]
theorem Tr.closeG {Q : Exit → Act → World → Prop} {c : Code} {e : TypeId} {sz b cap m : Nat} {rows : List (List Pr)} {sp : List Value} {ps : List Pr} (j : Nat) (hj : rs[j]? = some (cellsRes true b e ps)) (hps : ps = rows.flatten ++ sp.map is) (hm : rows.length = m) (h1 : m ≤ cap) (h2 : cap ≤ maxLen) (h3 : sp.length = (cap - m) * sz)
    (k : Tr P n E (Hp M0 w0 S (rs.set j (ownRes e sz rows (.slice (some ⟨b, 0, none⟩) m cap)))) c Q) : Tr P n E (Hp M0 w0 S rs) c Q := Tr.conv (fun _ _ hs => hs.closeG j (by rw [hj, hps]) hm h1 h2 h3) k
theorem Fin.closeH {Q : Exit → Act → World → Prop} {x : Exit} {e : TypeId} {sz b cap m : Nat} {rows : List (List Pr)} {sp : List Value} {ps : List Pr} (j : Nat) (hj : rs[j]? = some (cellsRes true b e ps)) (hps : ps = rows.flatten ++ sp.map is) (hm : rows.length = m) (h1 : m ≤ cap) (h2 : cap ≤ maxLen) (h3 : sp.length = (cap - m) * sz)
    (k : Fin n E (Hp M0 w0 S (rs.set j (ownRes e sz rows (.slice (some ⟨b, 0, none⟩) m cap)))) Q x) : Fin n E (Hp M0 w0 S rs) Q x := Fin.conv (fun _ _ hs => hs.closeG j (by rw [hj, hps]) hm h1 h2 h3) k
theorem FunM.own_of_mut {f : FuncId} {e : TypeId} {sz : Nat} {rows : List (List Pr)} {ps : List Pr} {res : Pr} {R : Res} (h : FunM P f ps res R (fun v => mutRes e sz rows v)) : FunM P f ps res R (fun v => ownRes e sz rows v) := by
  refine ⟨h.1, fun M0 w0 S rs M w vs hI hv => (h.2 M0 w0 S rs M w vs hI hv).mono ?_⟩
  rintro e' w' ⟨v, M', rfl, h2, h3, h4⟩
  exact ⟨v, M', rfl, h2, h3, h4.swap1 (i := 0) rfl rfl rfl (.inr (h4.hold _ (List.mem_cons_self ..)).1)⟩
instance free_tup2 (p q : Pr) [Free p] [Free q] : Free (tup [p, q]) := ⟨fun M M' w v ⟨cs, h1, h2⟩ => ⟨cs, h1, by
  match cs, h2 with
  | [a, b], h2 => exact ⟨Free.free _ _ _ _ h2.1, Free.free _ _ _ _ h2.2.1, trivial⟩⟩⟩
theorem ok_convU {I : Asn} {s t : TypeId} {x : Operand} {k : IntKind} {n : Int} (ho : o.op = .convert s t x) (hs : P.underlying s = some (.int k)) (ht : P.underlying t = some (.int .u64)) (hx : VL E x (is (.int k n))) (h0 : 0 ≤ n) (h1 : n ≤ 18446744073709551615) : OpOK P I o E (is (.int .u64 n)) := by
  have := ok_conv (P := P) (I := I) ho hs ht hx
  rwa [IntWalk.u64_in n ⟨h0, h1⟩] at this
theorem ok_half {I : Asn} {t u : TypeId} {x y : Operand} {m : Int} (ho : o.op = .binOp .shr t x y u) (hx : VL E x (is (.int .u64 m))) (hy : VL E y (is (.int .u64 1))) (h0 : 0 ≤ m) : OpOK P I o E (is (.int .u64 (m / 2))) :=
  OpOK.same fun M w a he _ => by
    have h1 : a.eval x = .int .u64 m := hx.ev he (by simp [ho, Op.operands])
    have h2 : a.eval y = .int .u64 1 := hy.ev he (by simp [ho, Op.operands])
    refine ⟨.int .u64 (m.fdiv 2), ?_, congrArg (Value.int .u64) (Int.fdiv_eq_ediv_of_nonneg m (by omega))⟩
    simp only [execOp, ho, h1, h2]
    simp [eqGuard, binOp, Op.shift, IntKind.bits]
end
end Cp
namespace Cp
open Go Go.RowKit Go.Great
section
variable {P : Program} {n : Nat} {E : Env} {M0 : Av} {w0 : World} {S : Nat → Prop} {o : Oper}
/-- A block of which one cell hangs on a slot, and then another one on another. -/
def twoF (new : Bool) (b : Nat) (T : TypeId) (off : Nat) (p : Pr) (ps : Value → List Pr) (u : Value) : Res := match u with
  | .tuple t => cellsRes new b T ((ps (t.getD 0 undef)).take off ++ [andIs (t.getD 1 undef) p] ++ (ps (t.getD 0 undef)).drop (off + 1))
  | _ => noRes
theorem ef_storeT {t : TypeId} {x : Operand} {q0 q : Tmp} {j : Nat} {new : Bool} {b off : Nat} {T : TypeId} {ps : Value → List Pr} {p : Pr} [One p] (hg : o.guard = none) (hd : o.dst = none) (ho : o.op = .store t x (.tmp q)) (hx : VL E x (ptr b off)) (hy : E.lookup q = some p)
    (hz : sizeB P t = some 1) (hl : ∀ v, off + 1 ≤ (ps v).length) : OpEf P M0 w0 S n j ⟨.one q0, fun v => cellsRes new b T (ps v)⟩ ⟨.two q0 q, twoF new b T off p ps⟩ o E any := by
  refine ⟨hg, fun M w a rs hsz he hI hj => ?_⟩
  have hj' : rs[j]? = some (SR.at_ a (SR.c (cellsRes new b T (ps (a.tmps.getD q0 undef))))) := hj
  obtain ⟨h1, h2⟩ := ef_storeS (P := P) (M0 := M0) (w0 := w0) (S := S) (n := n) (j := j) (new := new) (T := T) (ps := ps (a.tmps.getD q0 undef)) (b := b) (off := off) hg hd ho hx hy hz (hl _)
  have h3 := h2 M w a rs hsz he hI hj'
  revert h3
  generalize (execOp a.eval o).run P w = r
  have key : ∀ v, SR.at_ (a.put o.dst v) ⟨.one q, fun v => cellsRes new b T ((ps (a.tmps.getD q0 undef)).take off ++ [andIs v p] ++ (ps (a.tmps.getD q0 undef)).drop (off + 1))⟩ = SR.at_ (a.put o.dst v) ⟨.two q0 q, twoF new b T off p ps⟩ := fun v => by rw [hd]; rfl
  intro h3
  cases r with
  | halt x w' => exact h3
  | ok x w' =>
    cases x
    case value v => obtain ⟨M', g1, g2, g3⟩ := h3; exact ⟨M', g1, g2, by rw [← key]; exact g3⟩
    case skip => obtain ⟨M', g1, g2, g3⟩ := h3; exact ⟨M', g1, g2, by rw [← key]; exact g3⟩
    case enter f args =>
      refine Calls.mono h3 ?_
      rintro e w'' ⟨v, M', g0, g1, g2, g3⟩
      exact ⟨v, M', g0, g1, g2, by rw [← key]; exact g3⟩
    all_goals exact h3
/-- Two slots are named: two resources that hang on one each, and one that hangs on both. -/
theorem FinX.open3 {Q : Exit → Act → World → Prop} {rs : List SR} (j1 j2 i s t : Nat) {f g : Value → Res} {new : Bool} {b off : Nat} {T : TypeId} {ps : Value → List Pr} {p q r : Pr} (h1 : rs[j1]? = some ⟨.one s, f⟩) (h2 : rs[j2]? = some ⟨.one t, g⟩) (h3 : rs[i]? = some ⟨.two s t, twoF new b T off r ps⟩) (h12 : j1 ≠ j2) (h13 : j1 ≠ i) (h23 : j2 ≠ i) (hst : s ≠ t) (hs : E.lookup s = some p) (ht : E.lookup t = some q)
    (k : ∀ v u, FinX n M0 w0 S ((t, andIs u q) :: (s, andIs v p) :: E) (((rs.set j1 (SR.c (f v))).set j2 (SR.c (g u))).set i (SR.c (cellsRes new b T ((ps v).take off ++ [andIs u r] ++ (ps v).drop (off + 1))))) Q) : FinX n M0 w0 S E rs Q := by
  rintro a w ⟨M, g1, g2, g3, g4⟩
  refine k (a.tmps.getD s undef) (a.tmps.getD t undef) a w ⟨M, g1, g2, ?_, ?_⟩
  · intro c z hz
    simp only [List.lookup] at hz
    by_cases hct : c = t
    · subst hct; simp only [beq_self_eq_true, Option.some.injEq] at hz; subst hz; exact ⟨rfl, g3 c q ht⟩
    · rw [show (c == t) = false by simpa using hct] at hz
      by_cases hcs : c = s
      · subst hcs; simp only [beq_self_eq_true, Option.some.injEq] at hz; subst hz; exact ⟨rfl, g3 c p hs⟩
      · rw [show (c == s) = false by simpa using hcs] at hz; exact g3 c z hz
  · have e1 := set_at h1 a
    have e2 := set_at (rs := rs.set j1 (SR.c (f (a.tmps.getD s undef)))) (j := j2) (s := t) (f := g) (by rw [List.getElem?_set, if_neg h12]; exact h2) a
    have h3' : ((rs.set j1 (SR.c (f (a.tmps.getD s undef)))).set j2 (SR.c (g (a.tmps.getD t undef))))[i]? = some ⟨.two s t, twoF new b T off r ps⟩ := by
      rw [List.getElem?_set, if_neg h23, List.getElem?_set, if_neg h13]; exact h3
    rw [List.map_set, e2, e1]
    have e3 : (rs.map (·.at_ a)).set i (cellsRes new b T ((ps (a.tmps.getD s undef)).take off ++ [andIs (a.tmps.getD t undef) r] ++ (ps (a.tmps.getD s undef)).drop (off + 1))) = rs.map (·.at_ a) := by
      apply List.ext_getElem?
      intro m
      rw [List.getElem?_set]
      by_cases him : i = m
      · subst him
        rw [if_pos rfl]
        split
        · rw [List.getElem?_map, h3]; rfl
        · rename_i hge
          rw [List.getElem?_eq_none (by omega)]
      · rw [if_neg him]
    exact (congrArg (fun l => HpH M0 w0 S l M w) e3).mpr g4
end
section
variable {P : Program} {n : Nat} {E : Env} {M0 : Av} {w0 : World} {S : Nat → Prop} {rs : List Res} {ε : Type} {res : ε → List Res}
end
section
variable {P : Program} {n : Nat} {E : Env} {M0 : Av} {w0 : World} {S : Nat → Prop} {o : Oper}
end
end Cp
namespace Cp
open Go Go.RowKit
section
variable {P : Program} {I : Asn} {o : Oper} {E : Env}
end
section
variable {P : Program} {n : Nat} {E : Env} {M0 : Av} {w0 : World} {S : Nat → Prop} {rs : List Res} {o : Oper}
end
end Cp
namespace Cp
open Go Go.RowKit Go.Great
def FunL {α : Type} (P : Program) (f : FuncId) (args : List Pr) (pre : List Res) (C : α → Prop) (res : α → Pr) (post : α → List Res) : Prop := Entry P f ∧ ∀ M0 w0 S rs M w vs, HpH M0 w0 S (pre ++ rs) M w → HL M w args vs →
  Calls P f vs.toArray w fun e w' => ∃ v M' x, e = .returned v ∧ C x ∧ (res x).h M' w' v ∧ Ext M w M' w' ∧ HpH M0 w0 S (post x ++ rs) M' w'
def BackL {α : Type} (M0 : Av) (w0 : World) (S : Nat → Prop) (rs : List Res) (M1 : Av) (w1 : World) (C : α → Prop) (res : α → Pr) (post : α → List Res) (e : Ending) (w' : World) : Prop := ∃ v M' x, e = .returned v ∧ C x ∧ (res x).h M' w' v ∧ Ext M1 w1 M' w' ∧ HpH M0 w0 S (post x ++ rs) M' w'
section
variable {P : Program} {n : Nat} {E : Env} {M0 : Av} {w0 : World} {S : Nat → Prop} {rs : List Res} {α : Type} {pre : List Res} {C : α → Prop} {res : α → Pr} {post : α → List Res} {M1 : Av} {w1 : World} {g : Func} {o : Oper} {r : List Oper} {ops : Array Oper}
theorem FunL.of {f : FuncId} {c : Code} {ps : List Pr} (hf : P.funcs[f]? = some g) (hb : g.body = some c) (hname : (g.name == "runtime.NumGoroutine") = false) (hlen : ps.length ≤ g.ntmps)
    (h : ∀ M0 w0 S rs M1 w1, Tr P g.ntmps (penv 0 ps) (Hp M0 w0 S (pre ++ extRes M1 w1 :: rs)) c (bodyPost P g (BackL M0 w0 S rs M1 w1 C res post))) : FunL P f ps pre C res post := by
  refine ⟨⟨g, hf, hname, by rw [hb]; rfl⟩, fun M0 w0 S rs M w vs hI hv => ?_⟩
  refine calls_of_wp hf hb (h M0 w0 S rs M w _ _ ⟨M, ?_, rfl, enter_env hv, ?_⟩)
  · have := hv.length
    simp [this]; omega
  · exact HpH.perm List.perm_middle.symm (HpH.add0 hI (r := extRes M w) rfl (Ext.refl _ _))
theorem HpH.callL {M : Av} {w : World} {f : FuncId} {args : List Pr} {rest : List Res} (hf : FunL P f args pre C res post) (hp : rs.Perm (pre ++ rest)) (hI : HpH M0 w0 S rs M w) {vs : List Value} (hv : HL M w args vs) :
    Calls P f vs.toArray w fun e w' => ∃ v M' x, e = .returned v ∧ C x ∧ (res x).h M' w' v ∧ Ext M w M' w' ∧ HpH M0 w0 S (post x ++ rest) M' w' := hf.2 M0 w0 S rest M w vs (HpH.perm hp hI) hv
theorem TO.callL {Q : Exit → Act → World → Prop} {f : FuncId} {xs : Array Operand} {ts : Array TypeId} {ps : List Pr} (rest : List Res) {d : Nat} (hg : o.guard = none) (hd : o.dst = some d) (hn : d < n) (ho : o.op = .call { callee := .value (.func f), args := xs, argTypes := ts }) (hf : FunL P f ps pre C res post)
    (hv : Vals E xs.toList ps) (hp : rs.Perm (pre ++ rest)) (k : ∀ x, C x → TO P n ops r ((d, res x) :: E) (Hp M0 w0 S (post x ++ rest)) Q) : TO P n ops (o :: r) E (Hp M0 w0 S rs) Q :=
  TO.eff hg fun K M w a hsz hdf he hI hK => by
    have hI : HpH M0 w0 S rs M w := hI
    have h1 := Vals.evalFor (o := o) (looks_env he) (xs := xs.toList) (fun x hx => by simp [ho, Op.operands, Call.operands]; exact .inr (by simpa using hx)) hv
    have hrun : (execOp a.eval o).run P w = .ok (.enter f (xs.toList.map a.eval).toArray) w := by
      simp [execOp, ho, resolve, Deferred.ofValue, Act.eval, invoke, run_callFunc hf.1, map_list xs]
    unfold Oper.wp
    rw [hrun]
    refine (HpH.callL hf hp hI h1).mono ?_
    rintro e w' ⟨v, M', x, rfl, hC, h2, h3, h4⟩
    refine hK _ _ _ _ (k x hC) ⟨M', by rw [put_size]; exact hsz, by rw [put_defers]; exact hdf, ?_, h4⟩
    intro s q hq
    simp only [List.lookup] at hq
    by_cases hs : s = d
    · subst hs; simp at hq; subst hq; rw [hd, put_same (by rw [hsz]; exact hn)]; exact h2
    · rw [show (s == d) = false by simpa using hs] at hq; rw [hd, put_other hs]; exact q.st _ _ _ _ _ h3 (he s q hq)
theorem outL {l : List Res} {M : Av} {w : World} (h : HpH M0 w0 S (l ++ extRes M1 w1 :: rs) M w) : Ext M1 w1 M w ∧ HpH M0 w0 S (l ++ rs) M w :=
  ⟨(h.hold (extRes M1 w1) (by simp)).1, (HpH.perm List.perm_middle h).drop1⟩
theorem Fin.retL1 {rv : ResultVar} {q : Pr} {rs' : List Res} (x : α) (hr : g.results = #[rv]) (h : RVal P E rs' rv q) (hC : C x) (hl : Pr.le q (res x)) (hp : rs'.Perm (post x ++ extRes M1 w1 :: rs)) :
    Fin n E (Hp M0 w0 S rs') (bodyPost P g (BackL M0 w0 S rs M1 w1 C res post)) .ret := by
  rintro a w ⟨M, _, hd, he, hi⟩
  have hi : HpH M0 w0 S rs' M w := hi
  obtain ⟨v, hv, hp'⟩ := h M w a he (fun q hq => (hi.hold q hq).1)
  obtain ⟨h1, h2⟩ := outL (HpH.perm hp hi)
  exact ⟨hd, v, results1 hr hv, _, M, x, rfl, hC, hl _ _ _ hp', h1, h2⟩
end
end Cp
namespace Cp
open Go Go.RowKit Go.Great
section
variable {P : Program} {n : Nat} {E : Env} {M0 : Av} {w0 : World} {S : Nat → Prop} {rs : List Res} {o : Oper}
def oweBlk : Value → Option Nat
  | .slice (some a) _ (_ + 1) => some a.block
  | _ => none
/-- A slice of ours: nothing (nil or not), or its elements and what lies behind them. -/
def oweRes (e : TypeId) (sz : Nat) (rows : List (List Pr)) (v : Value) : Res where
  blk := oweBlk v
  new := true
  h M w := (rows = [] ∧ ∃ A, v = .slice A 0 0) ∨ (∃ (b cap : Nat) (spare : List Value), v = .slice (some ⟨b, 0, none⟩) rows.length (cap + 1) ∧ rows.length ≤ cap + 1 ∧ cap + 1 ≤ maxLen ∧ spare.length = (cap + 1 - rows.length) * sz ∧ (cellsRes true b e (rows.flatten ++ spare.map is)).h M w)
  st M w M' w' he hk h := by
    rcases h with h | ⟨b, cap, spare, rfl, h1, h2, h3, h4⟩
    · exact .inl h
    · exact .inr ⟨b, cap, spare, rfl, h1, h2, h3, (cellsRes true b e _).st _ _ _ _ he hk h4⟩
theorem lt_of_at {α : Type} {l : List α} {j : Nat} {x : α} (h : l[j]? = some x) : j < l.length := by
  rcases Nat.lt_or_ge j l.length with h' | h'
  · exact h'
  · rw [List.getElem?_eq_none h'] at h; cases h
theorem HpH.blank {M : Av} {w : World} {j : Nat} {r : Res} (h : HpH M0 w0 S rs M w) (hj : rs[j]? = some r) : HpH M0 w0 S (rs.set j noRes) M w :=
  HpH.perm (perm_set (lt_of_at hj)) ((HpH.perm (perm_at hj) h).drop1.add0 (r := noRes) rfl trivial)
theorem void_slice (sz : Nat) (A : Option Addr) (M : Av) (w : World) : (slice sz []).h M w (.slice A 0 0) := ⟨A, 0, rfl, Nat.le_refl _, Nat.zero_le _, fun _ => rfl, fun i row h => by simp at h⟩
theorem void_full (sz : Nat) (A : Option Addr) (M : Av) (w : World) : (full sz []).h M w (.slice A 0 0) := ⟨void_slice sz A M w, A, rfl⟩
/-- It is turned no more. -/
theorem HpH.frzW {M : Av} {w : World} {sz : Nat} {e : TypeId} {rows : List (List Pr)} {v : Value} {j : Nat} (h : HpH M0 w0 S rs M w) (hj : rs[j]? = some (oweRes e sz rows v)) (hl : ∀ r ∈ rows, r.length = sz) :
    ∃ M', Ext M w M' w ∧ HpH M0 w0 S (rs.set j noRes) M' w ∧ (slice sz rows).h M' w v := by
  have hjl := lt_of_at hj
  rcases (h.hold _ (List.mem_of_getElem? hj)).1 with ⟨rfl, A, rfl⟩ | ⟨b, cap, spare, rfl, hnc, hcm, hsp, hcr⟩
  · exact ⟨M, Ext.refl _ _, h.blank hj, void_slice sz A M w⟩
  · have hC := h.swap1 (r' := cellsRes true b e (rows.flatten ++ spare.map is)) hj rfl rfl hcr
    obtain ⟨M', h1, h2, h3⟩ := HpH.frz hC (List.getElem?_set_self hjl) hl hnc hcm (by rw [List.length_map]; exact hsp)
    have h4 := h2.blank (j := j) (by rw [List.set_set]; exact List.getElem?_set_self hjl)
    rw [List.set_set, List.set_set] at h4
    exact ⟨M', h1, h4, h3⟩
theorem HL.set {M : Av} {w : World} {ps : List Pr} {vs : List Value} {k : Nat} {p q : Pr} (h : HL M w ps vs) (hk : ps[k]? = some p) (hq : ∀ u, p.h M w u → q.h M w u) : HL M w (ps.set k q) vs := by
  refine hl_of (by rw [h.length]; simp) fun k' p' hk' => ?_
  rw [List.getElem?_set] at hk'
  split at hk'
  · rename_i e1
    subst e1
    split at hk'
    · obtain ⟨u, hu, hpu⟩ := h.at_ k p hk
      simp at hk'; subst hk'
      exact ⟨u, hu, hq u hpu⟩
    · cases hk'
  · exact h.at_ k' p' hk'
/-- .. and a cell of ours holds it. -/
theorem HpH.frzWC {M : Av} {w : World} {i j k sz b : Nat} {new : Bool} {T e : TypeId} {ps : List Pr} {rows : List (List Pr)} {v : Value} (h : HpH M0 w0 S rs M w) (hi : rs[i]? = some (cellsRes new b T ps)) (hj : rs[j]? = some (oweRes e sz rows v)) (hij : j ≠ i) (hk : ps[k]? = some (is v)) (hl : ∀ r ∈ rows, r.length = sz) :
    ∃ M', Ext M w M' w ∧ HpH M0 w0 S ((rs.set j noRes).set i (cellsRes new b T (ps.set k (slice sz rows)))) M' w := by
  obtain ⟨M', h1, h2, h3⟩ := h.frzW hj hl
  have hi' : (rs.set j noRes)[i]? = some (cellsRes new b T ps) := by rw [List.getElem?_set_ne hij]; exact hi
  refine ⟨M', h1, h2.swap1 hi' rfl rfl ?_⟩
  obtain ⟨g1, cs, g2, g3, g4⟩ := (h2.hold _ (List.mem_of_getElem? hi')).1
  exact ⟨g1, cs, g2, g3.set hk (fun u hu => by rw [show u = v from hu]; exact h3), g4⟩
/-- What a function on such a slice does, case by case. -/
theorem FunM.owe_cases {f : FuncId} {e : TypeId} {sz : Nat} {rows : List (List Pr)} {v : Value} {ps : List Pr} {res : Pr} {R' : Value → Res} (hE : Entry P f) (h0 : rows = [] → FunM P f (full sz [] :: ps) res noRes R')
    (h1 : ∀ (b cap : Nat) (sp : List Value), rows.length ≤ cap → cap ≤ maxLen → sp.length = (cap - rows.length) * sz → FunM P f (andIs (.slice (some ⟨b, 0, none⟩) rows.length cap) (lens rows.length) :: ps) res (cellsRes true b e (rows.flatten ++ sp.map is)) R') :
    FunM P f (is v :: ps) res (oweRes e sz rows v) R' := by
  refine ⟨hE, fun M0 w0 S rs M w vs hI hv => ?_⟩
  match vs, hv with
  | u0 :: vs1, hv1 =>
    obtain ⟨hu0, hv2⟩ := hv1
    obtain rfl : u0 = v := hu0
    rcases (hI.hold _ (List.mem_cons_self ..)).1 with ⟨hnil, A, rfl⟩ | ⟨b, cap, spare, rfl, hnc, hcm, hsp, hcr⟩
    · exact (h0 hnil).2 M0 w0 S rs M w _ (hI.blank (j := 0) rfl) (show HL M w (_ :: _) (_ :: vs1) from ⟨void_full sz A M w, hv2⟩)
    · have hC := hI.swap1 (i := 0) (r' := cellsRes true b e (rows.flatten ++ spare.map is)) rfl rfl rfl hcr
      exact (h1 b (cap + 1) spare hnc hcm hsp).2 M0 w0 S rs M w _ hC (show HL M w (_ :: _) (_ :: vs1) from ⟨⟨rfl, _, _, rfl⟩, hv2⟩)
/-- One that only reads. -/
theorem FunM.owe_pure {f : FuncId} {e : TypeId} {sz : Nat} {rows : List (List Pr)} {v : Value} {ps : List Pr} {res : Pr} [Free res] (hl : ∀ r ∈ rows, r.length = sz) (h : Fun P f (slice sz rows :: ps) res) :
    FunM P f (is v :: ps) res (oweRes e sz rows v) (fun _ => oweRes e sz rows v) := by
  refine ⟨h.1, fun M0 w0 S rs M w vs hI hv => ?_⟩
  match vs, hv with
  | u0 :: vs1, hv1 =>
    obtain ⟨hu0, hv2⟩ := hv1
    obtain rfl : u0 = v := hu0
    obtain ⟨M', hx, hI', hs⟩ := HpH.frzW (j := 0) hI rfl hl
    refine (h.2 M' w _ hI'.bd (show HL M' w (_ :: _) (_ :: vs1) from ⟨hs, hv2.st hx⟩)).mono ?_
    rintro e' w' ⟨u, rfl, h2, h3⟩
    exact ⟨u, M, rfl, Free.free _ _ _ _ h2, Ext.below h3, (Hp M0 w0 S _).st _ _ _ h3 hI⟩
/-- What v[k:] makes of v. -/
def part (sz : Nat) (v : Value) (k : Nat) : Pr where
  h _ _ u := ∃ a m c, v = .slice a m c ∧ k ≤ m ∧ u = .slice (if c = k then a else a.map fun x => x.add (k * sz)) (m - k) (c - k)
  st _M _w _M' _w' _v _ h := h
instance one_part (sz : Nat) (v : Value) (k : Nat) : One (part sz v k) := ⟨by rintro M w u ⟨a, m, c, h1, h2, rfl⟩; exact ⟨rfl, rfl⟩⟩
theorem part_slice {sz k : Nat} {rows : List (List Pr)} {v u : Value} {M : Av} {w : World} (h : (slice sz rows).h M w v) (hu : (part sz v k).h M w u) : (slice sz (rows.drop k)).h M w u := by
  obtain ⟨A, cap, rfl, hc, hm, hA, hr⟩ := h
  obtain ⟨a, m, c, hv, hk, rfl⟩ := hu
  injection hv with e1 e2 e3
  subst e1; subst e2; subst e3
  refine ⟨_, cap - k, by rw [List.length_drop], by rw [List.length_drop]; omega, by omega, fun hn => ?_, fun i row hi => ?_⟩
  · split at hn
    · have := hA hn; omega
    · cases A with
      | none => have := hA rfl; omega
      | some x => cases hn
  · rw [List.getElem?_drop] at hi
    obtain ⟨h1, ad, rfl, h3⟩ := hr _ _ hi
    have := lt_of_at hi
    refine ⟨h1, ad.add (k * sz), by rw [if_neg (by omega)]; rfl, fun j p hp => ?_⟩
    obtain ⟨q, h4, h5, h6, h7⟩ := h3 j p hp
    have e : k * sz + (i * sz + j) = (k + i) * sz + j := by rw [Nat.add_mul]; omega
    exact ⟨q, by rw [add_add, e]; exact h4, by rw [add_block, add_off, Nat.add_assoc, e]; exact h5, h6, h7⟩
/-- A slice that a function makes is turned no more. -/
theorem FunM.frz {f : FuncId} {args : List Pr} {e : TypeId} {sz m : Nat} {rows : List (List Pr)} {R : Res} (hl : ∀ r ∈ rows, r.length = sz) (h : FunM P f args (lens m) R (fun v => ownRes e sz rows v)) : FunM P f args (slice sz rows) R (fun _ => noRes) := by
  refine ⟨h.1, fun M0 w0 S rs M w vs hI hv => (h.2 M0 w0 S rs M w vs hI hv).mono ?_⟩
  rintro e' w' ⟨v, M', rfl, h2, h3, h4⟩
  obtain ⟨M2, j1, j2, j3⟩ := HpH.frzO (j := 0) h4 rfl hl
  exact ⟨v, M2, rfl, j3, h3.trans j1, j2.blank (j := 0) rfl⟩
theorem FunM.frzN {f : FuncId} {args : List Pr} {e : TypeId} {sz m : Nat} {rows : List (List Pr)} {R : Res} (hl : ∀ r ∈ rows, r.length = sz) (h : FunM P f args (lens m) R (fun v => mutRes e sz rows v)) : FunM P f args (slice sz rows) R (fun _ => noRes) :=
  FunM.frz hl (FunM.own_of_mut h)
theorem FunM.owe_of_mut {f : FuncId} {e : TypeId} {sz : Nat} {rows : List (List Pr)} {ps : List Pr} {res : Pr} {R : Res} (h0 : rows ≠ []) (h : FunM P f ps res R (fun v => mutRes e sz rows v)) : FunM P f ps res R (fun v => oweRes e sz rows v) := by
  refine ⟨h.1, fun M0 w0 S rs M w vs hI hv => (h.2 M0 w0 S rs M w vs hI hv).mono ?_⟩
  rintro e' w' ⟨v, M', rfl, h2, h3, h4⟩
  refine ⟨v, M', rfl, h2, h3, ?_⟩
  have hpos := List.length_pos_iff.2 h0
  obtain ⟨b, cap, spare, rfl, hnc, hcm, hsp, hcr⟩ := (h4.hold _ (List.mem_cons_self ..)).1
  cases cap with
  | zero => omega
  | succ cap => exact h4.swap1 (i := 0) rfl rfl rfl (.inr ⟨b, cap, spare, rfl, hnc, hcm, hsp, hcr⟩)
theorem FunM.owe_void {f : FuncId} {e : TypeId} {sz sz' : Nat} {ps : List Pr} (h : Fun P f ps (full sz' [])) : FunM P f ps (lens 0) noRes (fun v => oweRes e sz [] v) := by
  refine ⟨h.1, fun M0 w0 S rs M w vs hI hv => (h.2 M w vs hI.bd hv).mono ?_⟩
  rintro e' w' ⟨v, rfl, ⟨_, a, rfl⟩, h3⟩
  refine ⟨_, M, rfl, ⟨_, _, rfl⟩, Ext.below h3, ?_⟩
  have hI' : HpH M0 w0 S (noRes :: rs) M w' := (Hp M0 w0 S _).st _ _ _ h3 hI
  exact hI'.swap1 (i := 0) (r' := oweRes e sz [] (.slice a 0 0)) rfl (by cases a <;> rfl) rfl (.inl ⟨rfl, a, rfl⟩)

theorem rd_part {t e : TypeId} {x y : Operand} {k : IntKind} {l : Int} {sz j : Nat} {T : TypeId} {rows : List (List Pr)} {v : Value} (ho : o.op = .slice t x (some y) none none) (ht : P.underlying t = some (.slice e)) (hz : sizeB P e = some sz) (hx : VL E x (is v)) (hy : VL E y (is (.int k l))) (h0 : 0 ≤ l) (hl : l ≤ rows.length) :
    OpRd P M0 w0 S j (SR.c (oweRes T sz rows v)) o E (part sz v l.toNat) := by
  intro M w a rs he hI hj
  have h1 : a.eval x = v := hx.ev he (by simp [ho, Op.operands])
  have h3 : a.eval y = .int k l := hy.ev he (by simp [ho, Op.operands])
  have hj' : rs[j]? = some (oweRes T sz rows v) := hj
  rcases (hI.hold _ (List.mem_of_getElem? hj')).1 with ⟨rfl, A, hv⟩ | ⟨b, cap, spare, hv, hnc, hcm, hsp, hcr⟩
  · have hl0 : l = 0 := by simp at hl; omega
    subst hl0
    have hrun : (execOp a.eval o).run P w = .ok (.value (.slice A 0 0)) w := by
      simp [execOp, ho, h1, h3, hv, Instr.sliceAt, Instr.slice, run_underlying ht, Instr.sliceBounds, Instr.sliceBound, asIntOf, run_size hz]
    rw [hrun]
    exact ⟨⟨A, 0, 0, hv, Nat.le_refl _, by simp⟩, Below.refl _ _⟩
  · have hrun : (execOp a.eval o).run P w = .ok (.value (.slice (if cap + 1 = l.toNat then some ⟨b, 0, none⟩ else some ⟨b, l.toNat * sz, none⟩) (rows.length - l.toNat) (cap + 1 - l.toNat))) w := by
      by_cases hne : cap + 1 = l.toNat <;>
      simp [execOp, ho, h1, h3, hv, Instr.sliceAt, Instr.slice, run_underlying ht, Instr.sliceBounds, Instr.sliceBound, asIntOf, h0, hl, run_size hz, hne, addr_add]
    rw [hrun]
    refine ⟨⟨_, _, _, hv, by omega, ?_⟩, Below.refl _ _⟩
    simp [addr_add]
/-- A pointer into its i-th element. -/
def elp (sz : Nat) (v : Value) (i o : Nat) : Pr where
  h _ _ u := ∃ a m c, v = .slice (some a) m c ∧ u = .pointer (some (a.add (i * sz + o)))
  st _M _w _M' _w' _v _ h := h
instance one_elp (sz : Nat) (v : Value) (k o : Nat) : One (elp sz v k o) := ⟨by rintro M w u ⟨a, m, c, h1, rfl⟩; exact ⟨rfl, rfl⟩⟩
theorem rd_elp {t e : TypeId} {x y : Operand} {k : IntKind} {l : Int} {sz j : Nat} {T : TypeId} {rows : List (List Pr)} {v : Value} (ho : o.op = .indexAddr t x y) (ht : P.underlying t = some (.slice e)) (hz : sizeB P e = some sz) (hx : VL E x (is v)) (hy : VL E y (is (.int k l))) (h0 : 0 ≤ l) (hl : l < rows.length) :
    OpRd P M0 w0 S j (SR.c (oweRes T sz rows v)) o E (elp sz v l.toNat 0) := by
  intro M w a rs he hI hj
  have h1 : a.eval x = v := hx.ev he (by simp [ho, Op.operands])
  have h3 : a.eval y = .int k l := hy.ev he (by simp [ho, Op.operands])
  have hj' : rs[j]? = some (oweRes T sz rows v) := hj
  rcases (hI.hold _ (List.mem_of_getElem? hj')).1 with ⟨rfl, A, hv⟩ | ⟨b, cap, spare, hv, hnc, hcm, hsp, hcr⟩
  · simp at hl; omega
  · have hrun : (execOp a.eval o).run P w = .ok (.value (.pointer (some ((⟨b, 0, none⟩ : Addr).add (l.toNat * sz))))) w := by
      simp [execOp, ho, h1, h3, hv, Instr.indexAt, asIntOf, run_underlying ht, run_size hz, h0, hl]
    rw [hrun]
    exact ⟨⟨_, _, _, hv, rfl⟩, Below.refl _ _⟩
theorem ok_elfield {I : Asn} {t : TypeId} {x : Operand} {f sz i q off : Nat} {v : Value} (ho : o.op = .fieldAddr t x f) (hf : fieldOff P t f = some off) (hx : VL E x (elp sz v i q)) : OpOK P I o E (elp sz v i (q + off)) :=
  OpOK.same fun M w a he _ => by
    obtain ⟨a0, m0, c0, hv, h1⟩ := hx.ev he (by simp [ho, Op.operands])
    exact ⟨.pointer (some ((a0.add (i * sz + q)).add off)), by simp [execOp, ho, h1, run_fieldAt hf], a0, m0, c0, hv, by rw [add_add, Nat.add_assoc]⟩
theorem rd_elload {t : TypeId} {x : Operand} {sz j i : Nat} {T : TypeId} {rows : List (List Pr)} {row : List Pr} {v : Value} (ho : o.op = .load t x) (ht : aggB P t = true) (hz : sizeB P t = some sz) (hx : VL E x (elp sz v i 0)) (hl : ∀ r ∈ rows, r.length = sz) (hi : rows[i]? = some row) :
    OpRd P M0 w0 S j (SR.c (oweRes T sz rows v)) o E (agg row) := by
  intro M w a rs he hI hj
  obtain ⟨a0, m0, c0, hv0, h1⟩ := hx.ev he (by simp [ho, Op.operands])
  rw [Nat.add_zero] at h1
  have hj' : rs[j]? = some (oweRes T sz rows v) := hj
  rcases (hI.hold _ (List.mem_of_getElem? hj')).1 with ⟨rfl, A, hv⟩ | ⟨b, cap, spare, hv, hnc, hcm, hsp, ⟨_, cs, h4, h5, h6⟩⟩
  · simp at hi
  · rw [hv0] at hv
    injection hv with e1 e2 e3
    injection e1 with e1
    subst e1
    have hil := lt_of_at hi
    have hrl := hl row (List.mem_of_getElem? hi)
    have hfl := flat_len hl
    have hle : (i + 1) * sz ≤ rows.length * sz := Nat.mul_le_mul_right sz hil
    rw [Nat.add_mul] at hle
    have h7 : HL M w row ((cs.drop (i * sz)).take sz) := by
      have h8 := (h5.drop (i * sz)).take sz
      have e4 : ((rows.flatten ++ spare.map is).drop (i * sz)).take sz = row := by
        refine List.ext_getElem? fun j => ?_
        rw [List.getElem?_take]
        split
        · rename_i hj
          rw [List.getElem?_drop, List.getElem?_append_left (by rw [hfl]; omega), flat_at hl hi hj]
        · rw [List.getElem?_eq_none (by omega)]
      rwa [e4] at h8
    have hl' : ((cs.drop (i * sz)).take sz).length = sz := by rw [h7.length, hrl]
    have hrun : (loadCells ((⟨b, 0, none⟩ : Addr).add (i * sz)) sz).run P w = .ok ((cs.drop (i * sz)).take sz).toArray w := by
      have := run_loadCells_list (P := P) w ((⟨b, 0, none⟩ : Addr).add (i * sz)) ((cs.drop (i * sz)).take sz) (fun k u hk => by
        rw [add_add, addr_add]
        rw [List.getElem?_take] at hk
        split at hk
        · rw [List.getElem?_drop] at hk; simp [World.cell?, h4, hk]
        · cases hk)
      rwa [hl'] at this
    have hrun2 : (execOp a.eval o).run P w = .ok (.value (.agg ((cs.drop (i * sz)).take sz).toArray)) w := by simp [execOp, ho, h1, Instr.loadAt, Instr.sureAddr, loadVar, run_isAgg_agg ht, run_size hz, hrun]
    rw [hrun2]
    exact ⟨⟨_, rfl, fun c hc => h6 c (List.mem_of_mem_drop (List.mem_of_mem_take hc)), h7⟩, Below.refl _ _⟩

theorem set_flat {sz : Nat} : ∀ {rows : List (List Pr)} {i : Nat} {row : List Pr} {o : Nat} {qs S : List Pr}, (∀ r ∈ rows, r.length = sz) → rows[i]? = some row → o + qs.length ≤ sz →
    (rows.flatten ++ S).take (i * sz + o) ++ qs ++ (rows.flatten ++ S).drop (i * sz + o + qs.length) = (rows.set i (row.take o ++ qs ++ row.drop (o + qs.length))).flatten ++ S
  | [], _, _, _, _, _, _, h, _ => by simp at h
  | a :: l, 0, row, o, qs, S, hl, h, ho => by
    simp at h; subst h
    have h1 := hl a (by simp)
    rw [List.set_cons_zero, List.flatten_cons, List.flatten_cons, Nat.zero_mul, Nat.zero_add, List.append_assoc a, List.take_append_of_le_length (by omega), List.drop_append_of_le_length (by omega)]
    simp
  | a :: l, i + 1, row, o, qs, S, hl, h, ho => by
    have h1 := hl a (by simp)
    have ih := set_flat (S := S) (fun r hr => hl r (List.mem_cons_of_mem _ hr)) (i := i) (row := row) (o := o) (qs := qs) (by simpa using h) ho
    rw [List.set_cons_succ, List.flatten_cons, List.flatten_cons, List.append_assoc a, List.append_assoc a, ← ih, List.take_append, List.drop_append, List.take_of_length_le (by rw [h1, Nat.succ_mul]; omega), List.drop_of_length_le (by rw [h1, Nat.succ_mul]; omega),
      show (i + 1) * sz + o - a.length = i * sz + o by rw [h1, Nat.succ_mul]; omega, show (i + 1) * sz + o + qs.length - a.length = i * sz + o + qs.length by rw [h1, Nat.succ_mul]; omega]
    simp
/-- A store into one of its elements. -/
theorem ef_elstore {t : TypeId} {x y : Operand} {sz j i q m : Nat} {T : TypeId} {rows rows' : List (List Pr)} {row qs : List Pr} {v : Value} (hg : o.guard = none) (ho : o.op = .store t x y) (hx : VL E x (elp sz v i q)) (hy : VL E y (cellsP qs)) (hz : sizeB P t = some m) (hm : qs.length = m)
    (hl : ∀ r ∈ rows, r.length = sz) (hi : rows[i]? = some row) (hq : q + m ≤ sz) (hps : rows.set i (row.take q ++ qs ++ row.drop (q + m)) = rows') : OpEf P M0 w0 S n j (SR.c (oweRes T sz rows v)) (SR.c (oweRes T sz rows' v)) o E any := by
  refine ⟨hg, fun M w a rs hsz he hI hj => ?_⟩
  obtain ⟨a0, m0, c0, hv0, h1⟩ := hx.ev he (show x ∈ o.op.operands.toList by simp [ho, Op.operands])
  obtain ⟨h2, h3⟩ := hy.ev he (show y ∈ o.op.operands.toList by simp [ho, Op.operands])
  have hj' : rs[j]? = some (oweRes T sz rows v) := hj
  have hjl := lt_of_at hj'
  rcases (hI.hold _ (List.mem_of_getElem? hj')).1 with ⟨rfl, A, hv⟩ | ⟨b, cap, spare, hv, hnc, hcm, hsp, hcr⟩
  · simp at hi
  · subst hv
    injection hv0 with e1 e2 e3
    injection e1 with e1
    subst e1
    have hC := hI.swap1 (r' := cellsRes true b T (rows.flatten ++ spare.map is)) hj' rfl rfl hcr
    have hjC : (rs.set j (cellsRes true b T (rows.flatten ++ spare.map is)))[j]? = some (cellsRes true b T (rows.flatten ++ spare.map is)) := List.getElem?_set_self hjl
    obtain ⟨_, cs, h4, h5, h6⟩ := hcr
    have h5l := h5.length
    have h2l := h2.length
    have hil := lt_of_at hi
    have hfl := flat_len hl
    rw [List.length_append, hfl, List.length_map] at h5l
    have hle : (i + 1) * sz ≤ rows.length * sz := Nat.mul_le_mul_right sz hil
    rw [Nat.succ_mul] at hle
    have hcells : (a.eval y).cells.size = m := by rw [← hm, ← h2l]; simp
    have hrun : (storeCells ((⟨b, 0, none⟩ : Addr).add (i * sz + q)) (a.eval y).cells.toList 0).run P w = .ok () (w.setRow b (cs.take (i * sz + q) ++ (a.eval y).cells.toList ++ cs.drop (i * sz + q + m)).toArray) := by
      have := run_storeCells_at (P := P) b (i * sz + q) T (a.eval y).cells.toList 0 cs.toArray w h4 (by simp; omega) h3
      rw [addr_add, Nat.zero_add]
      simpa [hcells] using this
    have hrun2 : (execOp a.eval o).run P w = .ok .skip (w.setRow b (cs.take (i * sz + q) ++ (a.eval y).cells.toList ++ cs.drop (i * sz + q + m)).toArray) := by
      simp [execOp, ho, h1, Instr.storeAt, Instr.sureAddr, storeVar, run_size hz, hcells, hrun]
    rw [hrun2]
    have hfs := set_flat (S := spare.map is) hl hi (o := q) (qs := qs) (by omega)
    rw [hm, hps] at hfs
    obtain ⟨h7, h8⟩ := HpH.write (qs := rows'.flatten ++ spare.map is) (cs := cs.take (i * sz + q) ++ (a.eval y).cells.toList ++ cs.drop (i * sz + q + m)) hC hjC (by rw [← hfs]; exact (((h5.take (i * sz + q)).app h2)).app (h5.drop (i * sz + q + m)))
      (fun c hc => by
        simp only [List.mem_append] at hc
        rcases hc with (hc | hc) | hc
        · exact h6 c (List.mem_of_mem_take hc)
        · exact h3 c hc
        · exact h6 c (List.mem_of_mem_drop hc))
    rw [List.set_set] at h7
    refine ⟨M, trivial, h8, ?_⟩
    have hlen : rows'.length = rows.length := by rw [← hps, List.length_set]
    have h9 := h7.swap1 (r' := oweRes T sz rows' (.slice (some ⟨b, 0, none⟩) rows.length (cap + 1))) (List.getElem?_set_self hjl) rfl rfl (.inr ⟨b, cap, spare, by rw [hlen], by rw [hlen]; exact hnc, hcm, by rw [hlen]; exact hsp, (h7.hold _ (List.mem_of_getElem? (List.getElem?_set_self hjl))).1⟩)
    rw [List.set_set] at h9
    exact h9

theorem okb_sliceTwo {I : Asn} {t e : TypeId} {x y z : Operand} {k k' : IntKind} {l h : Int} {sz b m cap : Nat} (ho : o.op = .slice t x (some y) (some z) none) (ht : P.underlying t = some (.slice e)) (hz : sizeB P e = some sz) (hx : VL E x (is (.slice (some ⟨b, 0, none⟩) m cap))) (hy : VL E y (is (.int k l))) (hzv : VL E z (is (.int k' h))) (h0 : 0 ≤ l) (hlh : l < h) (hl : h ≤ cap) :
    OpOK P I o E (is (.slice (some ⟨b, l.toNat * sz, none⟩) (h.toNat - l.toNat) (cap - l.toNat))) :=
  OpOK.same fun M w a he _ => by
    have h1 : a.eval x = _ := hx.ev he (by simp [ho, Op.operands])
    have h3 : a.eval y = _ := hy.ev he (by simp [ho, Op.operands])
    have h5 : a.eval z = _ := hzv.ev he (by simp [ho, Op.operands])
    have hne : ¬ cap = l.toNat := by omega
    have h00 : 0 ≤ h := by omega
    have hle : l ≤ h := by omega
    have m1 : max h 0 = h := by omega
    have m2 : ¬ h < l := by omega
    refine ⟨_, ?_, rfl⟩
    simp [execOp, ho, h1, h3, h5, Instr.sliceAt, Instr.slice, run_underlying ht, Instr.sliceBounds, Instr.sliceBound, asIntOf, h0, h00, hle, hl, m1, m2, run_size hz, hne, addr_add]
theorem okb_sliceThree {I : Asn} {t e : TypeId} {x y z u : Operand} {k k' k2 : IntKind} {l h c : Int} {sz b m cap : Nat} (ho : o.op = .slice t x (some y) (some z) (some u)) (ht : P.underlying t = some (.slice e)) (hz : sizeB P e = some sz) (hx : VL E x (is (.slice (some ⟨b, 0, none⟩) m cap))) (hy : VL E y (is (.int k l))) (hzv : VL E z (is (.int k' h))) (hu : VL E u (is (.int k2 c))) (h0 : 0 ≤ l) (hlh : l ≤ h) (hhc : h ≤ c) (hl : c ≤ cap) :
    OpOK P I o E (lens (h.toNat - l.toNat)) :=
  OpOK.same fun M w a he _ => by
    have h1 : a.eval x = _ := hx.ev he (by simp [ho, Op.operands])
    have h3 : a.eval y = _ := hy.ev he (by simp [ho, Op.operands])
    have h5 : a.eval z = _ := hzv.ev he (by simp [ho, Op.operands])
    have h7 : a.eval u = _ := hu.ev he (by simp [ho, Op.operands])
    have h00 : 0 ≤ h := by omega
    have h01 : 0 ≤ c := by omega
    have m1 : max h 0 = h := by omega
    have m3 : max l 0 = l := by omega
    have m4 : max c 0 = c := by omega
    have m5 : ¬ h < l := by omega
    have m6 : ¬ c < h := by omega
    refine ⟨.slice (if c.toNat = l.toNat then some ⟨b, 0, none⟩ else some ⟨b, l.toNat * sz, none⟩) (h.toNat - l.toNat) (c.toNat - l.toNat), ?_, _, _, rfl⟩
    by_cases hne : c.toNat = l.toNat <;>
    simp [execOp, ho, h1, h3, h5, h7, Instr.sliceAt, Instr.slice, run_underlying ht, Instr.sliceBounds, Instr.sliceBound, asIntOf, h0, h00, h01, hlh, hhc, hl, m1, m3, m4, m5, m6, run_size hz, hne, addr_add] <;> (intro _; exfalso; omega)

theorem HpH.dropL : ∀ {l : List Res} {M : Av} {w : World}, HpH M0 w0 S (l ++ rs) M w → HpH M0 w0 S rs M w
  | [], _, _, h => h
  | _ :: l, _, _, h => HpH.dropL (l := l) h.drop1
end
end Cp
namespace Cp
open Go Go.RowKit Go.Great
section
variable {P : Program} {E : Env} {I : Asn} {o : Oper}
theorem ok_idxbyte {f : FuncId} {fn : Func} {x y : Operand} {ts : Array TypeId} {a : List UInt8} {c : UInt8} (ho : o.op = .call { callee := .value (.func f), args := #[x, y], argTypes := ts }) (hf : P.funcs[f]? = some fn) (hname : (fn.name == "runtime.NumGoroutine") = false)
    (hb : fn.body.isNone = true) (hn : Extern.findNext fn = none) (hex : Extern.find fn = some Extern.BytealgIndexByte.indexByte) (hx : VL E x (str a)) (hy : VL E y (is (.int .u8 ((c.toNat : Nat) : Int)))) : OpOK P I o E (int (Lib.indexByte a c)) :=
  OpOK.same fun M w ac he _ => by
    have h1 : ac.eval x = _ := hx.ev he (by simp [ho, Op.operands, Call.operands])
    have h2 : ac.eval y = _ := hy.ev he (by simp [ho, Op.operands, Call.operands])
    have h3 : ac.eval (.func f) = .func (.func f) #[] #[] := rfl
    refine ⟨_, ?_, rfl⟩
    have hrun : (execOp ac.eval o).run P w = (callFunc f #[ac.eval x, ac.eval y]).run P w := by simp [execOp, ho, resolve, Deferred.ofValue, invoke, h3]
    rw [hrun, h1, h2, run_callFunc_extern hf hname hb hn hex, Lib.run_indexByteString]
    simp
section
variable {n : Nat} {M0 : Av} {w0 : World} {S : Nat → Prop}
/-- A literal whose elements are ours. -/
theorem ef_buildM {t e : TypeId} {sz d j : Nat} {zs : List Value} {xs : List Operand} {parts : Array (Nat × Operand)} {rows : List (List Pr)} (hg : o.guard = none) (hd : o.dst = some d) (hn : d < n) (ho : o.op = .buildSlice t xs.length parts) (hp : parts.toList = (xs.zipIdx 0).map fun x => (x.2, x.1))
    (ht : P.underlying t = some (.slice e)) (hz : sizeB P e = some sz) (hze : zeroB P e = some zs) (hzl : zs.length = sz) (hsz : 0 < sz) (hx : ValR E sz xs rows) (hsmall : xs.length * sz ≤ 16777216) (hpos0 : 0 < xs.length) : OpEf P M0 w0 S n j (SR.c noRes) ⟨d, mutRes e sz rows⟩ o E (lens rows.length) := by
  refine ⟨hg, fun M w a rs hszn he hI hj => ?_⟩
  have hops : ∀ x ∈ xs, x ∈ o.op.operands.toList := by
    intro x hx
    simp only [ho, Op.operands, List.mem_map]
    obtain ⟨i, hi, rfl⟩ := List.mem_iff_getElem.1 hx
    exact ⟨(i, xs[i]), by rw [hp]; exact List.mem_map.2 ⟨(xs[i], i), by rw [List.mem_zipIdx_iff_getElem?]; simp [hi], rfl⟩, rfl⟩
  obtain ⟨h1, h2, h3⟩ := hx.ev he hops
  unfold sizeB at hz
  unfold zeroB at hze
  cases hi : P.info? e with
  | none => rw [hi] at hz; cases hz
  | some i =>
    rw [hi] at hz hze
    simp only [Option.map_some, Option.some.injEq, Option.map_eq_some_iff] at hz hze
    obtain ⟨z, hzz, hze⟩ := hze
    have hzc : z.cells.size = sz := by rw [← hzl, ← hze]; simp
    have hparts : (parts.map fun (i, x) => (i, a.eval x)).toList = ((xs.map a.eval).zipIdx 0).map fun x => (x.2, x.1) := by
      rw [Array.toList_map, hp, List.map_map, List.zipIdx_map, List.map_map]
      rfl
    have hfill := fill_whole (s := i.size) (by rw [hz]; exact hsz) (xs.map a.eval) ((Array.range (xs.length * i.size)).map (z.cells[· % z.cells.size]!)) (fun v hv => by
      obtain ⟨x, hx, rfl⟩ := List.mem_map.1 hv
      rw [hz]; exact h2 x hx) (by simp)
    have hpos : ¬ xs.length * i.size = 0 := by rw [hz]; exact Nat.ne_of_gt (Nat.mul_pos (by omega) hsz)
    have hrun := run_buildSlice (P := P) w t e xs.length (parts.map fun (i, x) => (i, a.eval x)) _ i z ht hi hzz (by rw [hz]; omega) hpos (by rw [hparts]; exact hfill)
    have hrun2 : (execOp a.eval o).run P w = .ok (.value (.slice (some ⟨w.heap.size, 0, none⟩) xs.length xs.length)) (w.alloc (.cells ((xs.map a.eval).flatMap fun v => v.cells.toList).toArray e)) := by simp [execOp, ho, hrun]
    rw [hrun2]
    generalize hcs : (xs.map a.eval).flatMap (fun v => v.cells.toList) = cs at h3 ⊢
    have hb : Below w.heap.size w (w.alloc (.cells cs.toArray e)) := (Below.refl _ _).alloc (Nat.le_refl _) _
    have hlen : rows.length ≤ maxLen := by
      have : xs.length * 1 ≤ xs.length * sz := Nat.mul_le_mul_left _ hsz
      unfold maxLen; omega
    have h4 := Ext.below (M := M) hb
    have hext : Ext M w (fun b o => M b o ∨ b = w.heap.size) (w.alloc (.cells cs.toArray e)) := by
      refine ⟨h4.size, fun a v hc hm => ⟨fun hx => ?_, (h4.keep a v hc hm).2⟩, fun b o ho hp hm => ⟨fun hx => ?_, (h4.obj b o ho hp hm).2⟩⟩
      · rcases hx with hx | hx
        · exact hm hx
        · have := cell_lt hc; omega
      · rcases hx with hx | hx
        · exact hm hx
        · subst hx; simp at ho
    have hs1 : (w.alloc (.cells cs.toArray e)).heap.size = w.heap.size + 1 := by simp
    have hat : (SR.at_ (a.put o.dst (.slice (some ⟨w.heap.size, 0, none⟩) xs.length xs.length)) ⟨d, mutRes e sz rows⟩) = mutRes e sz rows (.slice (some ⟨w.heap.size, 0, none⟩) xs.length xs.length) := by unfold SR.at_ Slot.val; dsimp only; rw [hd, put_same (by rw [hszn]; exact hn)]
    refine ⟨fun b o => M b o ∨ b = w.heap.size, ⟨_, _, by rw [h1]⟩, hext, ?_⟩
    rw [hat]
    refine hI.replace hj hext hb.os hb.tape hb.output (fun k hk _ => hb.block k hk) rfl (fun b o hm _ => .inl hm) (fun b o hx => ?_) ?_ rfl (fun b hbk => ?_)
    · rcases hx with hx | hx
      · have := hI.bd _ _ hx; omega
      · omega
    · refine ⟨w.heap.size, rows.length, [], by rw [h1], Nat.le_refl _, hlen, by simp, fun o => .inr rfl, cs, heap_alloc_new w _, ?_, h3.2.1⟩
      simpa using (h3.st hext).hl hsz
    · have hbk' : some w.heap.size = some b := hbk
      injection hbk' with e1
      subst e1
      exact ⟨by rw [hs1]; omega, .inr (Nat.le_refl _)⟩
end
theorem one_any (p : Pr) [One p] : Pr.le p (cellsP [any]) := fun M w v h => by
  obtain ⟨h1, h2⟩ := one_cellsP p M w v h
  refine ⟨?_, h2⟩
  match v.cells.toList, h1 with
  | [_], _ => exact ⟨trivial, trivial⟩
theorem put_any {ps : List Pr} {off : Nat} (h : ps[off]? = some any) : ps.take off ++ [any] ++ ps.drop (off + 1) = ps := by
  have hl := lt_of_at h
  rw [List.getElem?_eq_getElem hl] at h
  simp only [Option.some.injEq] at h
  conv => rhs; rw [← List.take_append_drop off ps, List.drop_eq_getElem_cons hl, h]
  simp
end
/-- All numbers below n. -/
def allI (p : Nat → Bool) (n : Nat) : Bool := (List.range n).all p
theorem allI_iff {p : Nat → Bool} {n : Nat} : allI p n = true ↔ ∀ j, j < n → p j = true := by unfold allI; simp
theorem allI_end {p : Nat → Bool} {n : Nat} (h : ∀ j, j < n → p j = true) : allI p n = true := allI_iff.2 h
theorem allI_hit {p : Nat → Bool} {n k : Nat} (hk : k < n) (h : p k = false) : allI p n = false := by
  rw [Bool.eq_false_iff]; intro h'; rw [allI_iff.1 h' k hk] at h; cases h
theorem allI_step {p : Nat → Bool} {k : Nat} (h : ∀ j, j < k → p j = true) (hk : p k = true) : ∀ j, j < k + 1 → p j = true := by
  intro j hj
  by_cases e : j = k
  · subst e; exact hk
  · exact h j (by omega)
end Cp
namespace Cp
open Go Go.RowKit Go.Great
section
variable {P : Program} {n : Nat} {I : Asn}
def TurnR (P : Program) (I' : Asn) (M : Av) (w : World) (p : Pr) : Result Next → Prop
  | .ok (.value v) w' => ∃ M', p.h M' w' v ∧ Ext M w M' w' ∧ I'.h M' w'
  | .ok .skip w' => ∃ M', p.h M' w' undef ∧ Ext M w M' w' ∧ I'.h M' w'
  | .ok (.enter f args) w' => Calls P f args w' fun e w'' => ∃ v M', e = .returned v ∧ p.h M' w'' v ∧ Ext M w M' w'' ∧ I'.h M' w''
  | _ => False
def OpTurn (P : Program) (n : Nat) (I I' : Asn) (o : Oper) (E : Env) (p : Pr) : Prop := o.guard = none ∧ ∀ M w (a : Act), a.tmps.size = n → EnvFor M w E o a → I.h M w → TurnR P I' M w p ((execOp a.eval o).run P w)
theorem step_turn {M : Av} {w : World} {o : Oper} {p : Pr} {a : Act} {K : Act → World → Prop} {Q : Exit → Act → World → Prop} {I' : Asn} (h : TurnR P I' M w p ((execOp a.eval o).run P w))
    (k : ∀ v w' M', p.h M' w' v → Ext M w M' w' → I'.h M' w' → K (a.put o.dst v) w') : o.wp P a w K Q := by
  unfold Oper.wp
  generalize (execOp a.eval o).run P w = r at h
  cases r with
  | halt x w' => exact h.elim
  | ok x w' =>
    cases x <;> first | exact h.elim | skip
    case value v => obtain ⟨M', h1, h2, h3⟩ := h; exact k _ _ _ h1 h2 h3
    case skip => obtain ⟨M', h1, h2, h3⟩ := h; exact k _ _ _ h1 h2 h3
    case enter f args =>
      refine h.mono ?_
      rintro e w'' ⟨v, M', rfl, h1, h2, h3⟩
      exact k _ _ _ h1 h2 h3
def ChOne (P : Program) (n : Nat) (I : Asn) (ops : Array Oper) : Nat → List Oper → Env → (Asn → Env → Prop) → Prop
  | _, [], _, _ => False
  | 0, o :: r, E, K => ∃ p I', OpTurn P n I I' o E p ∧ (∀ d, o.dst = some d → d < n) ∧ Ch P n I' ops r (upd o p E) (K I')
  | c + 1, o :: r, E, K => ∃ p, GOK P I ops o E p ∧ (∀ d, o.dst = some d → d < n) ∧ ChOne P n I ops c r (upd o p E) K
theorem ChOne.op {ops : Array Oper} {o : Oper} {r : List Oper} {E : Env} {K : Asn → Env → Prop} {d c : Nat} {p : Pr} (hg : o.guard = none) (hd : o.dst = some d) (hn : d < n) (h : OpOK P I o E p)
    (k : ChOne P n I ops c r ((d, p) :: E) K) : ChOne P n I ops (c + 1) (o :: r) E K :=
  ⟨p, by unfold GOK; rw [hg]; exact h, fun d' hd' => by rw [hd] at hd'; cases hd'; exact hn, by unfold upd; rw [hd]; exact k⟩
theorem ChOne.turn {ops : Array Oper} {o : Oper} {r : List Oper} {E : Env} {K : Asn → Env → Prop} {d : Nat} {p : Pr} (I' : Asn) (hd : o.dst = some d) (hn : d < n) (h : OpTurn P n I I' o E p)
    (k : Ch P n I' ops r ((d, p) :: E) (K I')) : ChOne P n I ops 0 (o :: r) E K :=
  ⟨p, I', h, fun d' hd' => by rw [hd] at hd'; cases hd'; exact hn, by unfold upd; rw [hd]; exact k⟩
def drawOne (l : List Oper) (c : Nat) : Bool :=
  let b := befs l
  drawOk l && decide (c < l.length) && (List.range l.length).all fun i => i == c || (decide (i < c) && (b.getD c 0).testBit i) || (decide (c < i) && (b.getD i 0).testBit c)
theorem drawOne_spec {l : List Oper} {c : Nat} (h : drawOne l c = true) : drawOk l = true ∧ c < l.length ∧ (∀ i, i < c → ((befs l).getD c 0).testBit i = true) ∧ ∀ i, c < i → i < l.length → ((befs l).getD i 0).testBit c = true := by
  unfold drawOne at h
  simp only [Bool.and_eq_true, decide_eq_true_eq] at h
  obtain ⟨⟨h1, h2⟩, h3⟩ := h
  rw [List.all_eq_true] at h3
  refine ⟨h1, h2, fun i hi => ?_, fun i hi hl => ?_⟩
  · have := h3 i (by simp; omega)
    simp at this
    rcases this with (h | h) | h
    · omega
    · exact h.2
    · omega
  · have := h3 i (by simp; omega)
    simp at this
    rcases this with (h | h) | h
    · omega
    · omega
    · exact h.2
theorem cur_stop : ∀ (L : List (Oper × Pr)) (m : Nat) (E : Env) (b : Nat), b ≤ m → cur (fun i => decide (i < b)) m L E = E := by
  intro L
  induction L with
  | nil => intros; rfl
  | cons x L ih => intro m E b hm; obtain ⟨o, p⟩ := x; unfold cur; rw [if_neg (by simp; omega)]; exact ih _ _ _ (by omega)
theorem cho_list {ops : Array Oper} {K : Asn → Env → Prop} : ∀ (c : Nat) (l : List Oper) (k : Nat) (E : Env), ChOne P n I ops c l E K → ∃ (L : List (Oper × Pr)) (I' : Asn), L.map (·.1) = l ∧
    (∀ j o p, L[j]? = some (o, p) → (j ≠ c → GOK P (if j < c then I else I') ops o (cur (fun i => decide (i < k + j)) k L E) p) ∧ (j = c → OpTurn P n I I' o (cur (fun i => decide (i < k + j)) k L E) p) ∧ ∀ d, o.dst = some d → d < n) ∧ K I' (cur (fun _ => true) k L E)
  | _, [], _, _, h => by unfold ChOne at h; exact h.elim
  | 0, o :: l, k, E, h => by
    obtain ⟨p, I', hg, hd, hr⟩ := h
    obtain ⟨L, h1, h2, h3⟩ := ch_list l (k + 1) _ hr
    refine ⟨(o, p) :: L, I', by simp [h1], fun j o' p' hj => ?_, by unfold cur; simpa using h3⟩
    cases j with
    | zero =>
      simp only [List.getElem?_cons_zero, Option.some.injEq, Prod.mk.injEq] at hj
      obtain ⟨rfl, rfl⟩ := hj
      have e0 : decide (k < k + 0) = false := by simp
      refine ⟨fun h => absurd rfl h, fun _ => ?_, hd⟩
      unfold cur
      simp only [e0, Bool.false_eq_true, ↓reduceIte]
      rw [cur_stop L (k + 1) E (k + 0) (by omega)]
      exact hg
    | succ j =>
      have := h2 j o' p' (by simpa using hj)
      have e1 : decide (k < k + 1 + j) = true := by simp; omega
      rw [show k + (j + 1) = k + 1 + j by omega]
      unfold cur
      simp only [e1, ↓reduceIte]
      exact ⟨fun _ => by rw [if_neg (by omega : ¬ j + 1 < 0)]; exact this.1, fun h => absurd h (by omega), this.2⟩
  | c + 1, o :: l, k, E, h => by
    obtain ⟨p, hg, hd, hr⟩ := h
    obtain ⟨L, I', h1, h2, h3⟩ := cho_list c l (k + 1) _ hr
    refine ⟨(o, p) :: L, I', by simp [h1], fun j o' p' hj => ?_, by unfold cur; simpa using h3⟩
    cases j with
    | zero =>
      simp only [List.getElem?_cons_zero, Option.some.injEq, Prod.mk.injEq] at hj
      obtain ⟨rfl, rfl⟩ := hj
      have e0 : decide (k < k + 0) = false := by simp
      refine ⟨fun _ => ?_, fun h => absurd h (by omega), hd⟩
      unfold cur
      rw [if_pos (by omega : 0 < c + 1)]
      simp only [e0, Bool.false_eq_true, ↓reduceIte]
      rw [cur_stop L (k + 1) E (k + 0) (by omega)]
      exact hg
    | succ j =>
      have := h2 j o' p' (by simpa using hj)
      have e1 : decide (k < k + 1 + j) = true := by simp; omega
      rw [show k + (j + 1) = k + 1 + j by omega]
      unfold cur
      simp only [e1, ↓reduceIte]
      refine ⟨fun hne => ?_, fun he => this.2.1 (by omega), this.2.2⟩
      have h4 := this.1 (by omega)
      by_cases hlt : j < c
      · rw [if_pos (by omega : j + 1 < c + 1)]; rwa [if_pos hlt] at h4
      · rw [if_neg (by omega : ¬ j + 1 < c + 1)]; rwa [if_neg hlt] at h4
structure DJ1 (n : Nat) (I I' : Asn) (c : Nat) (L : List (Oper × Pr)) (E : Env) (listed : Array Bool) (a : Act) (w : World) : Prop where
  size : listed.size = L.length
  down : ∀ (i k : Nat) o p, L[i]? = some (o, p) → listed.getD i false = true → edge o k = true → listed.getD k false = true
  st : ∃ M, a.tmps.size = n ∧ a.defers = [] ∧ EnvOK M w (cur (fun i => listed.getD i false) 0 L E) a ∧ (if listed.getD c false then I' else I).h M w
theorem Tr.regOne (hm : P.follows .mixedOrders = true) (c : Nat) {id : Nat} {l : List Oper} {E : Env} {Q : Exit → Act → World → Prop} (hB0 : drawOne l c = true)
    (h : ChOne P n I l.toArray c l E (fun I' E' => ∀ a w, St n E' I' a w → Q .normal a w)) : Tr P n E I (.region id l.toArray true) Q := by
  intro a w hs
  obtain ⟨L, I', h1, h2, h3⟩ := cho_list c l 0 E h
  obtain ⟨hB, hcl, hA, hBc⟩ := drawOne_spec hB0
  have hlen : L.length = l.length := by rw [← h1]; simp
  have hL : ∀ (i : Nat) o, l.toArray[i]? = some o → ∃ p, L[i]? = some (o, p) := by
    intro i o ho
    have : l[i]? = some o := by simpa using ho
    rw [← h1, List.getElem?_map] at this
    cases hx : L[i]? with
    | none => rw [hx] at this; simp at this
    | some x => rw [hx] at this; simp at this; exact ⟨x.2, by rw [← this]⟩
  have hL' : ∀ (i : Nat) o p, L[i]? = some (o, p) → l[i]? = some o := by
    intro i o p hi
    rw [← h1, List.getElem?_map, hi]; rfl
  -- what the check says
  have hB1 : ∀ (i : Nat) o, l[i]? = some o → (∀ e ∈ o.after, Region.binds .any e = true → e.on < i) ∧
      ∀ (k : Nat) q s, l[k]? = some q → k ≠ i → q.dst = some s → o.dst ≠ some s ∧ (s ∈ seen l.toArray o → (k < i ∧ edge o k = true) ∨ (i < k ∧ edge q i = true)) := by
    intro i o ho
    unfold drawOk at hB
    rw [List.all_eq_true] at hB
    have hb := hB (o, i) (by rw [List.mem_zipIdx_iff_getElem?]; exact ho)
    simp only [Bool.and_eq_true] at hb
    refine ⟨fun e he hbd => ?_, fun k q s hk hne hd => ?_⟩
    · have := Array.all_eq_true_iff_forall_mem.1 hb.1 e he
      rw [hbd] at this; simpa using this
    · have := List.all_eq_true.1 hb.2 (q, k) (by rw [List.mem_zipIdx_iff_getElem?]; exact hk)
      simp only [hd, Bool.or_eq_true, Bool.and_eq_true] at this
      rcases this with h | h
      · exact absurd (by simpa using h) hne
      · refine ⟨by simpa using h.1, fun hs => ?_⟩
        rcases h.2 with (h' | h') | h'
        · have hc : (seen l.toArray o).contains s = true := by simpa using hs
          rw [hc] at h'; cases h'
        · exact .inl ⟨by simpa using h'.1, h'.2⟩
        · exact .inr ⟨by simpa using h'.1, h'.2⟩
  refine wp_region_any hm ?_
  -- the induction
  have key : ∀ (fuel : Nat) (listed : Array Bool) (a : Act) (w : World), listed.toList.count false ≤ fuel → DJ1 n I I' c L E listed a w → wpAny P .any l.toArray Q fuel listed a w := by
    intro fuel
    -- all are listed where nothing is ready
    have fin : ∀ (listed : Array Bool) (a : Act) (w : World), DJ1 n I I' c L E listed a w → (∀ i, i < L.length → listed.getD i false = true) → Q .normal a w := by
      intro listed a w hJ hall
      obtain ⟨M, hn, hdf, he, hI⟩ := hJ.st
      rw [hall c (by rw [hlen]; exact hcl)] at hI
      refine h3 a w ⟨M, hn, hdf, ?_, hI⟩
      have : cur (fun i => listed.getD i false) 0 L E = cur (fun _ => true) 0 L E := by
        have : ∀ (L' : List (Oper × Pr)) (k : Nat) (E : Env), k + L'.length ≤ L.length → cur (fun i => listed.getD i false) k L' E = cur (fun _ => true) k L' E := by
          intro L'
          induction L' with
          | nil => intros; rfl
          | cons x L' ih =>
            intro k E hk
            obtain ⟨o, p⟩ := x
            simp only [List.length_cons] at hk
            unfold cur
            rw [hall k (by omega), ih _ _ (by omega)]
        exact this L 0 E (by omega)
      rwa [this] at he
    have ready_nil : ∀ (listed : Array Bool) (a : Act) (w : World), DJ1 n I I' c L E listed a w → Region.ready .any l.toArray listed = [] → ∀ i, i < L.length → listed.getD i false = true := by
      intro listed a w hJ hr i
      induction i using Nat.strongRecOn with
      | _ i ih =>
        intro hi
        cases hli : listed.getD i false with
        | true => rfl
        | false =>
          exfalso
          have hil : i < l.length := by omega
          have hmem : i ∈ Region.ready .any l.toArray listed := by
            refine mem_ready.2 ⟨?_, l[i], by simp [hil], fun e he hb => ?_⟩
            · have : i < listed.size := by rw [hJ.size]; exact hi
              rw [Array.getD_eq_getD_getElem?, Array.getElem?_eq_getElem this] at hli ⊢
              simpa using hli
            · have := (hB1 i l[i] (by simp [hil])).1 e he hb
              exact ih e.on this (by omega)
          rw [hr] at hmem
          cases hmem
    induction fuel with
    | zero =>
      intro listed a w hc hJ
      have hall : ∀ i, i < L.length → listed.getD i false = true := by
        intro i hi
        have hsz := hJ.size
        have h0 : false ∉ listed.toList := by
          have : listed.toList.count false = 0 := by omega
          exact List.count_eq_zero.1 this
        cases hli : listed.getD i false with
        | true => rfl
        | false =>
          exfalso
          have : i < listed.size := by omega
          rw [Array.getD_eq_getD_getElem?, Array.getElem?_eq_getElem this] at hli
          apply h0
          simp at hli
          rw [← hli]
          exact Array.getElem_mem_toList this
      refine ⟨?_, fin listed a w hJ hall⟩
      cases hr : Region.ready .any l.toArray listed with
      | nil => rfl
      | cons i r =>
        exfalso
        have hi : i ∈ Region.ready .any l.toArray listed := by rw [hr]; simp
        obtain ⟨hu, o, ho, _⟩ := mem_ready.1 hi
        obtain ⟨p, hp⟩ := hL i o ho
        have hil : i < L.length := by rcases Nat.lt_or_ge i L.length with h | h; exact h; rw [List.getElem?_eq_none h] at hp; cases hp
        have h5 := hall i hil
        have : i < listed.size := by rw [hJ.size]; exact hil
        rw [Array.getD_eq_getD_getElem?, Array.getElem?_eq_getElem this] at hu h5
        simp at hu h5
        rw [hu] at h5; cases h5
    | succ fuel ih =>
      intro listed a w hc hJ
      refine ⟨fun hr => fin listed a w hJ (ready_nil listed a w hJ hr), fun i hi => ?_⟩
      obtain ⟨hu, o, ho, hall⟩ := mem_ready.1 hi
      obtain ⟨p, hp⟩ := hL i o ho
      have ho' : l[i]? = some o := hL' i o p hp
      have hil : i < L.length := by rcases Nat.lt_or_ge i L.length with h | h; exact h; rw [List.getElem?_eq_none h] at hp; cases hp
      have his : i < listed.size := by rw [hJ.size]; exact hil
      have hu0 : listed.getD i false = false := by
        rw [Array.getD_eq_getD_getElem?, Array.getElem?_eq_getElem his] at hu ⊢; simpa using hu
      have hpre : ∀ k, edge o k = true → listed.getD k false = true := by
        intro k hk
        obtain ⟨e, he, hb, rfl⟩ := edge_spec.1 hk
        exact hall e he hb
      obtain ⟨hgp, hgt, hdn⟩ := h2 i o p hp
      rw [Nat.zero_add] at hgp hgt
      obtain ⟨M, hn, hdf, he, hI⟩ := hJ.st
      -- what is looked at reads as in the text's order
      have hsame : ∀ s, s ∈ seen l.toArray o → (cur (fun j => decide (j < i)) 0 L E).lookup s = (cur (fun j => listed.getD j false) 0 L E).lookup s := by
        intro s hs
        by_cases hw : ∃ k q r, L[k]? = some (q, r) ∧ k ≠ i ∧ q.dst = some s
        · obtain ⟨k, q, r, hk, hki, hd⟩ := hw
          have huniq : ∀ (j : Nat) o' p', L[j]? = some (o', p') → j ≠ k → o'.dst ≠ some s := by
            intro j o' p' hj hjk
            exact ((hB1 j o' (hL' j o' p' hj)).2 k q s (hL' k q r hk) (Ne.symm hjk) hd).1
          rcases ((hB1 i o ho').2 k q s (hL' k q r hk) hki hd).2 hs with ⟨h5, h6⟩ | ⟨h5, h6⟩
          · rw [cur_hit L 0 E k q r hk (by simpa using h5) hd huniq, cur_hit L 0 E k q r hk (by simpa using hpre k h6) hd huniq]
          · have hnk : listed.getD k false = false := by
              cases hlk : listed.getD k false with
              | false => rfl
              | true => have := hJ.down k i q r hk hlk h6; rw [hu0] at this; cases this
            rw [cur_miss L 0 E, cur_miss L 0 E]
            · intro j o' p' hj hsel hd'
              by_cases hjk : j = k
              · subst hjk; rw [Nat.zero_add, hnk] at hsel; cases hsel
              · exact huniq j o' p' hj hjk hd'
            · intro j o' p' hj hsel hd'
              by_cases hjk : j = k
              · subst hjk; simp at hsel; omega
              · exact huniq j o' p' hj hjk hd'
        · rw [cur_miss L 0 E, cur_miss L 0 E]
          · intro j o' p' hj hsel hd'
            by_cases hji : j = i
            · subst hji; rw [Nat.zero_add, hu0] at hsel; cases hsel
            · exact hw ⟨j, o', p', hj, hji, hd'⟩
          · intro j o' p' hj hsel hd'
            by_cases hji : j = i
            · subst hji; simp at hsel
            · exact hw ⟨j, o', p', hj, hji, hd'⟩
      have next : ∀ v w' M', p.h M' w' v → Ext M w M' w' → (if (listed.setIfInBounds i true).getD c false then I' else I).h M' w' → wpAny P .any l.toArray Q fuel (listed.setIfInBounds i true) (a.put o.dst v) w' := by
        intro v w' M' hpv hb hI2
        refine ih _ _ _ ?_ ⟨by simpa using hJ.size, ?_, M', by rw [put_size]; exact hn, by rw [put_defers]; exact hdf, ?_, hI2⟩
        · have h7 : listed.toList[i]? = some false := by
            rw [Array.getElem?_toList, Array.getElem?_eq_getElem his]
            rw [Array.getD_eq_getD_getElem?, Array.getElem?_eq_getElem his] at hu0
            simpa using hu0
          have h8 := count_set h7
          rw [Array.toList_setIfInBounds]
          omega
        · intro j k o' p' hj hlj hek
          have hset : ∀ m, (listed.setIfInBounds i true).getD m false = (if m = i then true else listed.getD m false) := by
            intro m
            rw [Array.getD_eq_getD_getElem?, Array.getElem?_setIfInBounds]
            by_cases hm : i = m
            · subst hm; simp [his]
            · rw [if_neg hm, if_neg (Ne.symm hm), Array.getD_eq_getD_getElem?]
          rw [hset] at hlj ⊢
          by_cases hki : k = i
          · simp [hki]
          · rw [if_neg hki]
            by_cases hji : j = i
            · subst hji
              rw [hp] at hj
              cases hj
              exact hpre k hek
            · rw [if_neg hji] at hlj
              exact hJ.down j k o' p' hj hlj hek
        · -- the environment
          intro s q hq
          have hset : ∀ m, (listed.setIfInBounds i true).getD m false = (if m = i then true else listed.getD m false) := by
            intro m
            rw [Array.getD_eq_getD_getElem?, Array.getElem?_setIfInBounds]
            by_cases hm : i = m
            · subst hm; simp [his]
            · rw [if_neg hm, if_neg (Ne.symm hm), Array.getD_eq_getD_getElem?]
          by_cases hds : o.dst = some s
          · rw [cur_hit L 0 E i o p hp (by rw [Nat.zero_add, hset]; simp) hds
              (fun j o' p' hj hji => ((hB1 j o' (hL' j o' p' hj)).2 i o s ho' (Ne.symm hji) hds).1)] at hq
            cases hq
            rw [hds, put_same (by rw [hn]; exact hdn s hds)]
            exact hpv
          · have hq2 : (cur (fun j => listed.getD j false) 0 L E).lookup s = some q := by
              rw [← hq]
              by_cases hw : ∃ k q r, L[k]? = some (q, r) ∧ q.dst = some s ∧ listed.getD k false = true
              · obtain ⟨k, q', r, hk, hd, hlk⟩ := hw
                have huniq : ∀ (j : Nat) o' p', L[j]? = some (o', p') → j ≠ k → o'.dst ≠ some s := by
                  intro j o' p' hj hjk
                  exact ((hB1 j o' (hL' j o' p' hj)).2 k q' s (hL' k q' r hk) (Ne.symm hjk) hd).1
                rw [cur_hit L 0 E k q' r hk (by simpa using hlk) hd huniq, cur_hit L 0 E k q' r hk (by rw [Nat.zero_add, hset]; split; rfl; exact hlk) hd huniq]
              · rw [cur_miss L 0 E, cur_miss L 0 E]
                · intro j o' p' hj hsel hd'
                  rw [Nat.zero_add, hset] at hsel
                  by_cases hji : j = i
                  · subst hji; rw [hp] at hj; cases hj; exact hds hd'
                  · rw [if_neg hji] at hsel; exact hw ⟨j, o', p', hj, hd', hsel⟩
                · intro j o' p' hj hsel hd'
                  rw [Nat.zero_add] at hsel
                  exact hw ⟨j, o', p', hj, hd', hsel⟩
            have hv := he s q hq2
            have : (a.put o.dst v).tmps.getD s undef = a.tmps.getD s undef := by
              cases hd : o.dst with
              | none => rfl
              | some d => exact put_other (fun e => hds (by rw [hd, e]))
            rw [this]
            exact q.st _ _ _ _ _ hb hv
      have hsetc : (listed.setIfInBounds i true).getD c false = (if c = i then true else listed.getD c false) := by
        rw [Array.getD_eq_getD_getElem?, Array.getElem?_setIfInBounds]
        by_cases hm : i = c
        · subst hm; simp [his]
        · rw [if_neg hm, if_neg (Ne.symm hm), Array.getD_eq_getD_getElem?]
      have hdown : ∀ (j : Nat) o', l[j]? = some o' → listed.getD j false = true → ∀ e ∈ o'.after, Region.binds .any e = true → listed.getD e.on false = true := by
        intro j o' hj hlj e he' hb
        obtain ⟨p', hp'⟩ := hL j o' (by simpa using hj)
        exact hJ.down j e.on o' p' hp' hlj (edge_spec.2 ⟨e, he', hb, rfl⟩)
      have henv : EnvFor M w (cur (fun j => decide (j < i)) 0 L E) o a := fun s q hs hq => by
        rw [hsame s (by unfold seen; simp [hs])] at hq
        exact he s q hq
      unfold wpOp
      rw [ho]
      by_cases hic : i = c
      · obtain ⟨hg0, hg⟩ := hgt hic
        dsimp only
        rw [if_pos (wanted_none hg0)]
        have hlc : listed.getD c false = false := by rw [← hic]; exact hu0
        rw [hlc] at hI
        refine .inl (step_turn (hg M w a hn henv hI) fun v w' M' hv hx hI2 => next v w' M' hv hx ?_)
        rw [hsetc, if_pos hic.symm]; exact hI2
      · have hgpi := hgp hic
        have hlc : listed.getD c false = decide (c < i) := by
          by_cases hlt : i < c
          · rw [decide_eq_false (by omega)]
            cases hlc : listed.getD c false with
            | false => rfl
            | true =>
              exfalso
              obtain ⟨oc, hoc⟩ : ∃ oc, l[c]? = some oc := ⟨l[c]'hcl, List.getElem?_eq_getElem hcl⟩
              have := befs_spec (fun j => listed.getD j false = true) l hdown c oc hoc (fun e he' hb => hdown c oc hoc hlc e he' hb) i (hA i hlt)
              rw [hu0] at this; cases this
          · rw [decide_eq_true (by omega)]
            exact befs_spec (fun j => listed.getD j false = true) l hdown i o ho' (fun e he' hb => hall e (by simpa using he') hb) c (hBc i (by omega) (by omega))
        rw [hlc] at hI
        have hI3 : (if i < c then I else I').h M w := by
          by_cases hlt : i < c
          · rw [decide_eq_false (by omega)] at hI; rw [if_pos hlt]; exact hI
          · rw [decide_eq_true (by omega)] at hI; rw [if_neg hlt]; exact hI
        refine gok_step hgpi henv (fun j want d q hgd hj hq => ?_) hI3 ?_
        · have hds : d ∈ seen l.toArray o := by unfold seen; rw [hgd]; exact List.mem_append.2 (.inr (by show d ∈ ((l.toArray[j]?).bind (·.dst)).toList; rw [hj]; simp))
          rw [hsame d hds] at hq
          exact he d q hq
        · intro v w' hpv hb
          refine next v w' M hpv (Ext.below hb) ?_
          rw [hsetc, if_neg (Ne.symm hic), hlc]
          exact Asn.st _ _ _ _ hb hI
  refine key l.length _ a _ ?_ ⟨by simp [hlen], ?_, ?_⟩
  · simp [List.count_replicate]
  · intro i k o p hp hl
    exfalso
    rw [Array.getD_eq_getD_getElem?, Array.getElem?_replicate] at hl
    split at hl <;> simp at hl
  · obtain ⟨M, hn, hdf, he, hI⟩ := hs
    have hb : Below w.heap.size w { w with drawn := w.drawn + 1 } := ⟨rfl, rfl, rfl, Nat.le_refl _, fun _ _ => rfl⟩
    refine ⟨M, hn, hdf, ?_, ?_⟩
    rotate_left
    · have : (Array.replicate l.toArray.size false).getD c false = false := by rw [Array.getD_eq_getD_getElem?, Array.getElem?_replicate]; split <;> rfl
      rw [this]; exact I.st _ _ _ hb hI
    intro s q hq
    rw [cur_miss L 0 E] at hq
    · exact q.st _ _ _ _ _ (Ext.below hb) (he s q hq)
    · intro j o p hj hsel
      exfalso
      rw [Array.getD_eq_getD_getElem?, Array.getElem?_replicate] at hsel
      split at hsel <;> simp at hsel

def FunD (P : Program) (f : FuncId) (args : List Pr) (pre : List Res) (res : Pr) (post : List Res) : Prop := FunL (α := Unit) P f args pre (fun _ => True) (fun _ => res) (fun _ => post)
section
variable {M0 : Av} {w0 : World} {S : Nat → Prop} {rs : List Res} {E : Env} {o : Oper} {g : Func} {M1 : Av} {w1 : World}
theorem FunD.of {f : FuncId} {c : Code} {ps : List Pr} {pre post : List Res} {res : Pr} (hf : P.funcs[f]? = some g) (hb : g.body = some c) (hname : (g.name == "runtime.NumGoroutine") = false) (hlen : ps.length ≤ g.ntmps)
    (h : ∀ M0 w0 S rs M1 w1, Tr P g.ntmps (penv 0 ps) (Hp M0 w0 S (pre ++ extRes M1 w1 :: rs)) c (bodyPost P g (BackL M0 w0 S rs M1 w1 (fun _ : Unit => True) (fun _ => res) (fun _ => post)))) : FunD P f ps pre res post :=
  FunL.of hf hb hname hlen h
theorem turn_call {f : FuncId} {xs : Array Operand} {ts : Array TypeId} {ps : List Pr} {pre post : List Res} {res : Pr} (rest : List Res) (hg : o.guard = none) (ho : o.op = .call { callee := .value (.func f), args := xs, argTypes := ts }) (hf : FunD P f ps pre res post)
    (hv : Vals E xs.toList ps) (hp : rs.Perm (pre ++ rest)) : OpTurn P n (Hp M0 w0 S rs) (Hp M0 w0 S (post ++ rest)) o E res := by
  refine ⟨hg, fun M w a hsz he hI => ?_⟩
  have hI : HpH M0 w0 S rs M w := hI
  have h1 := Vals.evalFor (o := o) he (xs := xs.toList) (fun x hx => by simp [ho, Op.operands, Call.operands]; exact .inr (by simpa using hx)) hv
  have hrun : (execOp a.eval o).run P w = .ok (.enter f (xs.toList.map a.eval).toArray) w := by
    simp [execOp, ho, resolve, Deferred.ofValue, Act.eval, invoke, run_callFunc hf.1, map_list xs]
  rw [hrun]
  refine (HpH.callL hf hp hI h1).mono ?_
  rintro e w' ⟨v, M', x, rfl, hC, h2, h3, h4⟩
  exact ⟨v, M', rfl, h2, h3, h4⟩
theorem turn_callv {f : FuncId} {cx : Operand} {xs : Array Operand} {ts : Array TypeId} {ps : List Pr} {pre post : List Res} {res : Pr} (rest : List Res) (hg : o.guard = none) (ho : o.op = .call { callee := .value cx, args := xs, argTypes := ts }) (hc : VL E cx (fn (.func f) [])) (hf : FunD P f ps pre res post)
    (hv : Vals E xs.toList ps) (hp : rs.Perm (pre ++ rest)) : OpTurn P n (Hp M0 w0 S rs) (Hp M0 w0 S (post ++ rest)) o E res := by
  refine ⟨hg, fun M w a hsz he hI => ?_⟩
  have hI : HpH M0 w0 S rs M w := hI
  have h1 := Vals.evalFor (o := o) he (xs := xs.toList) (fun x hx => by simp [ho, Op.operands, Call.operands]; exact .inr (by simpa using hx)) hv
  have hcv := hc.ev he (by simp [ho, Op.operands, Call.operands])
  have hrun : (execOp a.eval o).run P w = .ok (.enter f (xs.toList.map a.eval).toArray) w := by
    obtain ⟨cs, h2, hcs⟩ := hcv
    cases cs with
    | nil => simp [execOp, ho, resolve, Deferred.ofValue, h2, invoke, run_callFunc hf.1, map_list xs]
    | cons c cs => exact hcs.elim
  rw [hrun]
  refine (HpH.callL hf hp hI h1).mono ?_
  rintro e w' ⟨v, M', x, rfl, hC, h2, h3, h4⟩
  exact ⟨v, M', rfl, h2, h3, h4⟩
theorem TO.callD {Q : Exit → Act → World → Prop} {ops : Array Oper} {r : List Oper} {f : FuncId} {xs : Array Operand} {ts : Array TypeId} {ps : List Pr} {pre post : List Res} {res : Pr} {d : Nat} (rest : List Res) (hg : o.guard = none) (hd : o.dst = some d) (hn : d < n) (ho : o.op = .call { callee := .value (.func f), args := xs, argTypes := ts }) (hf : FunD P f ps pre res post)
    (hv : Vals E xs.toList ps) (hp : rs.Perm (pre ++ rest)) (k : TO P n ops r ((d, res) :: E) (Hp M0 w0 S (post ++ rest)) Q) : TO P n ops (o :: r) E (Hp M0 w0 S rs) Q :=
  TO.callL rest hg hd hn ho hf hv hp fun _ _ => k
theorem Fin.retD {rv : ResultVar} {q res : Pr} {post rs' : List Res} (hr : g.results = #[rv]) (h : RVal P E rs' rv q) (hl : Pr.le q res) (hp : rs'.Perm (post ++ extRes M1 w1 :: rs)) :
    Fin n E (Hp M0 w0 S rs') (bodyPost P g (BackL M0 w0 S rs M1 w1 (fun _ : Unit => True) (fun _ => res) (fun _ => post))) .ret :=
  Fin.retL1 () hr h trivial hl hp
/-- One that makes something of its own alone is plain. -/
theorem FunM.pure {f : FuncId} {args : List Pr} {res : Pr} {R' : Value → Res} (h : FunM P f args res noRes R') : Fun P f args res := by
  refine ⟨h.1, fun M w vs hb hv => ?_⟩
  refine (h.2 M w noS [] M w vs ((HpH.begin hb).add0 (r := noRes) rfl trivial) hv).mono ?_
  rintro e w' ⟨v, M', rfl, h2, h3, h4⟩
  exact ⟨v, rfl, res.st _ _ _ _ _ (Ext.less h4.m) h2, h4.below⟩
theorem rd_lenW {t e T : TypeId} {x : Operand} {sz j : Nat} {rows : List (List Pr)} {v : Value} (ho : o.op = .call { callee := .builtin .len, args := #[x], argTypes := #[t] }) (ht : P.underlying t = some (.slice e)) (hx : VL E x (is v)) :
    OpRd P M0 w0 S j (SR.c (oweRes T sz rows v)) o E (int ((rows.length : Nat) : Int)) := by
  intro M w a rs he hI hj
  have h1 : a.eval x = v := hx.ev he (by simp [ho, Op.operands, Call.operands])
  have hj' : rs[j]? = some (oweRes T sz rows v) := hj
  have hrun : ∃ A c, v = .slice A rows.length c := by
    rcases (hI.hold _ (List.mem_of_getElem? hj')).1 with ⟨rfl, A, hv⟩ | ⟨b, cap, spare, hv, _⟩
    · exact ⟨_, _, hv⟩
    · exact ⟨_, _, hv⟩
  obtain ⟨A, c, hv⟩ := hrun
  have : (execOp a.eval o).run P w = .ok (.value (.int .i64 ((rows.length : Nat) : Int))) w := by
    simp [execOp, ho, resolve, invoke, builtin, Builtin.len_, h1, hv, run_underlying ht, goInt]
  rw [this]
  exact ⟨rfl, Below.refl _ _⟩
end
end
end Cp
namespace Cp
open Go Go.RowKit Go.Great
section
variable {P : Program} {n : Nat} {E : Env} {M0 : Av} {w0 : World} {S : Nat → Prop} {rs : List Res} {o : Oper}
/-- The last m elements of a block, from the place off on. -/
def tailP (b off m : Nat) : Pr where
  h _ _ u := ∃ o c, u = .slice (some ⟨b, o, none⟩) m c ∧ (0 < m → o = off)
  st _M _w _M' _w' _v _ h := h
instance one_tailP (b off m : Nat) : One (tailP b off m) := ⟨by rintro M w u ⟨o, c, rfl, _⟩; exact ⟨rfl, rfl⟩⟩
theorem okb_sliceTail {I : Asn} {t e : TypeId} {x y : Operand} {k : IntKind} {l : Int} {sz b m cap : Nat} (ho : o.op = .slice t x (some y) none none) (ht : P.underlying t = some (.slice e)) (hz : sizeB P e = some sz) (hx : VL E x (is (.slice (some ⟨b, 0, none⟩) m cap))) (hy : VL E y (is (.int k l))) (h0 : 0 ≤ l) (hl : l ≤ m) (hc : m ≤ cap) :
    OpOK P I o E (tailP b (l.toNat * sz) (m - l.toNat)) :=
  OpOK.same fun M w a he _ => by
    have h1 : a.eval x = _ := hx.ev he (by simp [ho, Op.operands])
    have h3 : a.eval y = _ := hy.ev he (by simp [ho, Op.operands])
    by_cases hne : cap = l.toNat
    · refine ⟨.slice (some ⟨b, 0, none⟩) (m - l.toNat) (cap - l.toNat), ?_, 0, _, rfl, fun h => by omega⟩
      simp [execOp, ho, h1, h3, Instr.sliceAt, Instr.slice, run_underlying ht, Instr.sliceBounds, Instr.sliceBound, asIntOf, h0, hl, run_size hz, hne]
    · refine ⟨.slice (some ⟨b, l.toNat * sz, none⟩) (m - l.toNat) (cap - l.toNat), ?_, _, _, rfl, fun _ => rfl⟩
      simp [execOp, ho, h1, h3, Instr.sliceAt, Instr.slice, run_underlying ht, Instr.sliceBounds, Instr.sliceBound, asIntOf, h0, hl, run_size hz, hne, addr_add]
/-- append of a later part onto a part of the same block. -/
theorem ef_appTail {t e : TypeId} {x y : Operand} {sz d b k m cap off : Nat} {j : Nat} {new : Bool} {ps ps' : List Pr} (hg : o.guard = none) (hd : o.dst = some d) (hn : d < n) (ho : o.op = .call { callee := .builtin .append, args := #[x, y], argTypes := #[t, t] })
    (ht : P.underlying t = some (.slice e)) (hz : sizeB P e = some sz) (hx : VL E x (is (.slice (some ⟨b, 0, none⟩) k cap))) (hy : VL E y (tailP b off m)) (hroom : k + m ≤ cap) (hl : off + m * sz ≤ ps.length) (hl2 : k * sz + m * sz ≤ ps.length)
    (hps : ps.take (k * sz) ++ (ps.drop off).take (m * sz) ++ ps.drop (k * sz + m * sz) = ps') : OpEf P M0 w0 S n j (SR.c (cellsRes new b e ps)) (SR.c (cellsRes new b e ps')) o E (is (.slice (some ⟨b, 0, none⟩) (k + m) cap)) := by
  refine ⟨hg, fun M w a rs hszn he hI hj => ?_⟩
  have h1 : a.eval x = _ := hx.ev he (by simp [ho, Op.operands, Call.operands])
  obtain ⟨o2, c2, h2, ho2⟩ := hy.ev he (by simp [ho, Op.operands, Call.operands])
  obtain ⟨⟨_, cs, h4, h5, h6⟩, _⟩ := hI.hold _ (List.mem_of_getElem? hj)
  have h5l := h5.length
  have hnl : ((cs.drop off).take (m * sz)).length = m * sz := by rw [List.length_take, List.length_drop]; omega
  unfold sizeB at hz
  cases hi : P.info? e with
  | none => rw [hi] at hz; cases hz
  | some i =>
    rw [hi] at hz
    simp only [Option.map_some, Option.some.injEq] at hz
    have hrun := run_append_room (P := P) (w := w) t o.type e i ht hi b k cap cs.toArray h4 ⟨b, o2, none⟩ m c2 ((cs.drop off).take (m * sz)) (by rw [hz]; exact hnl) (fun q u hk => by
      rw [addr_add]
      rw [List.getElem?_take] at hk
      split at hk
      · rename_i hq
        have hm : 0 < m := by rcases Nat.eq_zero_or_pos m with h | h; subst h; simp at hq; exact h
        have := ho2 hm
        subst this
        rw [List.getElem?_drop] at hk; simp [World.cell?, h4, hk]
      · cases hk) (fun u hu => h6 u (List.mem_of_mem_drop (List.mem_of_mem_take hu))) hroom (by rw [hz, hnl]; simp; omega)
    rw [hz, hnl] at hrun
    obtain ⟨h7, h8⟩ := HpH.write (qs := ps') (cs := cs.take (k * sz) ++ (cs.drop off).take (m * sz) ++ cs.drop (k * sz + m * sz)) hI hj (by rw [← hps]; exact ((h5.take _).app ((h5.drop off).take _)).app (h5.drop _))
      (fun c hc => by
        simp only [List.mem_append] at hc
        rcases hc with (hc | hc) | hc
        · exact h6 c (List.mem_of_mem_take hc)
        · exact h6 c (List.mem_of_mem_drop (List.mem_of_mem_take hc))
        · exact h6 c (List.mem_of_mem_drop hc))
    have hrun2 : (execOp a.eval o).run P w = .ok (.value (.slice (some ⟨b, 0, none⟩) (k + m) cap)) (w.setRow b (cs.take (k * sz) ++ (cs.drop off).take (m * sz) ++ cs.drop (k * sz + m * sz)).toArray) := by
      simp [execOp, ho, resolve, invoke, builtin, h1, h2, hrun]
    rw [hrun2]
    exact ⟨M, rfl, h8, h7⟩
theorem ok_appEE {I : Asn} {t e : TypeId} {x y : Operand} {sz sz1 sz2 : Nat} (ho : o.op = .call { callee := .builtin .append, args := #[x, y], argTypes := #[t, t] }) (ht : P.underlying t = some (.slice e)) (hz : sizeB P e = some sz) (hx : VL E x (full sz1 [])) (hy : VL E y (slice sz2 [])) : OpOK P I o E (full sz []) :=
  OpOK.same fun M w a he _ => by
    obtain ⟨_, A, h1⟩ := hx.ev he (by simp [ho, Op.operands, Call.operands])
    obtain ⟨A', c', h2, _⟩ := hy.ev he (by simp [ho, Op.operands, Call.operands])
    simp only [List.length_nil] at h1 h2
    refine ⟨.slice A 0 0, ?_, void_full sz A M w⟩
    have hrun := run_append_zero (P := P) (ty := o.type) (A := A) (A' := A') (n := 0) (c := 0) (c' := c') ht hz (Nat.le_refl _) w
    simp [execOp, ho, resolve, invoke, builtin, h1, h2, hrun]
end
theorem rep1 {K : Nat} {r : List Pr} (h : K = 1) : (List.replicate K r).flatten = r := by subst h; simp
section
variable {P : Program} {n : Nat} {E : Env} {M0 : Av} {w0 : World} {S : Nat → Prop} {rs : List Res} {o : Oper}
theorem turn_ef {p : Pr} (j : Nat) {R R' : Res} (hR : rs[j]? = some R) (h : OpEf P M0 w0 S n j (SR.c R) (SR.c R') o E p) : OpTurn P n (Hp M0 w0 S rs) (Hp M0 w0 S (rs.set j R')) o E p := by
  refine ⟨h.1, fun M w a hsz he hI => ?_⟩
  have := h.2 M w a rs hsz he hI hR
  generalize (execOp a.eval o).run P w = r at this
  cases r with
  | halt x w' => exact this.elim
  | ok x w' =>
    cases x <;> first | exact this.elim | exact this
end
theorem flat_takeN {β : Type} {f : β → List Pr} {sz : Nat} (hf : ∀ x, (f x).length = sz) : ∀ (l : List β) (i : Nat), ((l.map f).flatten).take (i * sz) = ((l.take i).map f).flatten
  | [], i => by simp
  | a :: l, 0 => by simp
  | a :: l, i + 1 => by
    rw [List.map_cons, List.flatten_cons, List.take_succ_cons, List.map_cons, List.flatten_cons, ← flat_takeN hf l i, List.take_append, hf a, List.take_of_length_le (by rw [hf a, Nat.succ_mul]; omega), Nat.succ_mul, Nat.add_sub_cancel]
theorem flat_dropN {β : Type} {f : β → List Pr} {sz : Nat} (hf : ∀ x, (f x).length = sz) : ∀ (l : List β) (i : Nat), ((l.map f).flatten).drop (i * sz) = ((l.drop i).map f).flatten
  | [], i => by simp
  | a :: l, 0 => by simp
  | a :: l, i + 1 => by
    rw [List.map_cons, List.flatten_cons, List.drop_succ_cons, ← flat_dropN hf l i, List.drop_append, hf a, List.drop_of_length_le (by rw [hf a, Nat.succ_mul]; omega), Nat.succ_mul, Nat.add_sub_cancel]; rfl
theorem flat_insN {β : Type} {f : β → List Pr} {sz : Nat} (hf : ∀ x, (f x).length = sz) {l : List β} {i : Nat} {x : β} : ((l.map f).flatten).take (i * sz) ++ f x ++ ((l.map f).flatten).drop (i * sz) = ((l.take i ++ [x] ++ l.drop i).map f).flatten := by
  rw [flat_takeN hf, flat_dropN hf, List.map_append, List.map_append, List.flatten_append, List.flatten_append, List.map_singleton]; simp
theorem flat_delN {β : Type} {f : β → List Pr} {sz : Nat} (hf : ∀ x, (f x).length = sz) {l : List β} {i : Nat} : ((l.map f).flatten).take (i * sz) ++ ((l.map f).flatten).drop ((i + 1) * sz) = ((l.eraseIdx i).map f).flatten := by
  rw [flat_takeN hf, flat_dropN hf, List.eraseIdx_eq_take_drop_succ, List.map_append, List.flatten_append]
theorem ins_placeZ {A S X B : List Pr} {a z N o1 o2 o3 o4 o5 o6 : Nat} (hA : A.length = N) (ha : a + z ≤ N) (hX : X.length = z) (hS : z ≤ S.length) (h1 : o1 = a + z) (h2 : o2 = a) (h3 : o3 = N - a) (h4 : o4 = a + z + (N - a)) (h5 : o5 = a) (h6 : o6 = a + z) (hB : B = (A.take a ++ X ++ A.drop a) ++ S.drop z) :
    ((A ++ S).take o1 ++ ((A ++ S).drop o2).take o3 ++ (A ++ S).drop o4).take o5 ++ X ++ ((A ++ S).take o1 ++ ((A ++ S).drop o2).take o3 ++ (A ++ S).drop o4).drop o6 = B := by
  rw [h1, h2, h3, h4, h5, h6, hB]
  have e1 : (A ++ S).take (a + z) = A.take a ++ (A.drop a).take z := by rw [List.take_append_of_le_length (by omega), List.take_add]
  have e2 : ((A ++ S).drop a).take (N - a) = A.drop a := by
    rw [List.drop_append_of_le_length (by omega), List.take_append_of_le_length (by rw [List.length_drop]; omega), List.take_of_length_le (by rw [List.length_drop]; omega)]
  have e3 : (A ++ S).drop (a + z + (N - a)) = S.drop z := by
    rw [show a + z + (N - a) = A.length + z by omega, List.drop_append]; simp
  have l1 : (A.take a).length = a := by rw [List.length_take]; omega
  have l2 : ((A.drop a).take z).length = z := by rw [List.length_take, List.length_drop]; omega
  rw [e1, e2, e3]
  have t1 : (A.take a ++ (A.drop a).take z ++ A.drop a ++ S.drop z).take a = A.take a := by
    rw [List.append_assoc, List.append_assoc]; exact List.take_left' l1
  have t2 : (A.take a ++ (A.drop a).take z ++ A.drop a ++ S.drop z).drop (a + z) = A.drop a ++ S.drop z := by
    rw [List.append_assoc]; exact List.drop_left' (by rw [List.length_append]; omega)
  rw [t1, t2]
  simp
theorem ins_grownZ {A S Z X B R : List Pr} {a z N o0 o1 o2 o3 o4 : Nat} (hA : A.length = N) (ha : a ≤ N) (hX : X.length = z) (hZ : N + z - a ≤ Z.length) (h0 : o0 = a) (h1 : o1 = a) (h2 : o2 = a + z) (h3 : o3 = a + z) (h4 : o4 = a + z + (N - a)) (hR : R = A.drop a) (hB : B = (A.take a ++ X ++ A.drop a) ++ Z.drop (N + z - a)) :
    (((A ++ S).take o0 ++ Z).take o1 ++ X ++ ((A ++ S).take o0 ++ Z).drop o2).take o3 ++ R ++ (((A ++ S).take o0 ++ Z).take o1 ++ X ++ ((A ++ S).take o0 ++ Z).drop o2).drop o4 = B := by
  rw [h0, h1, h2, h3, h4, hR, hB]
  have l1 : (A.take a).length = a := by rw [List.length_take]; omega
  have e0 : (A ++ S).take a = A.take a := List.take_append_of_le_length (by omega)
  rw [e0]
  have e1 : (A.take a ++ Z).take a = A.take a := by rw [List.take_append_of_le_length (by omega), List.take_of_length_le (by omega)]
  have e2 : (A.take a ++ Z).drop (a + z) = Z.drop z := by rw [List.drop_append, List.drop_of_length_le (by omega), List.nil_append, l1]; congr 1; omega
  rw [e1, e2]
  have l2 : (A.take a ++ X).length = a + z := by rw [List.length_append]; omega
  have e3 : (A.take a ++ X ++ Z.drop z).take (a + z) = A.take a ++ X := by rw [List.take_append_of_le_length (by omega), List.take_of_length_le (by omega)]
  have e4 : (A.take a ++ X ++ Z.drop z).drop (a + z + (N - a)) = Z.drop (N + z - a) := by
    rw [List.drop_append, List.drop_of_length_le (by omega), List.nil_append, l2, List.drop_drop]; congr 1; omega
  rw [e3, e4]
theorem del_place {A S Z B : List Pr} {a z N o1 o2 o3 o4 o5 o6 : Nat} (hA : A.length = N) (ha : a + z ≤ N) (h1 : o1 = a) (h2 : o2 = a + z) (h3 : o3 = N - (a + z)) (h4 : o4 = N - z) (h5 : o5 = N - z) (h6 : o6 = N) (hB : B = (A.take a ++ A.drop (a + z)) ++ (Z ++ S)) :
    ((A ++ S).take o1 ++ ((A ++ S).drop o2).take o3 ++ (A ++ S).drop o4).take o5 ++ Z ++ ((A ++ S).take o1 ++ ((A ++ S).drop o2).take o3 ++ (A ++ S).drop o4).drop o6 = B := by
  rw [h1, h2, h3, h4, h5, h6, hB]
  have e1 : (A ++ S).take a = A.take a := by rw [List.take_append_of_le_length (by omega)]
  have e2 : ((A ++ S).drop (a + z)).take (N - (a + z)) = A.drop (a + z) := by
    rw [List.drop_append_of_le_length (by omega), List.take_append_of_le_length (by rw [List.length_drop]; omega), List.take_of_length_le (by rw [List.length_drop]; omega)]
  rw [e1, e2]
  have l1 : (A.take a ++ A.drop (a + z)).length = N - z := by rw [List.length_append, List.length_take, List.length_drop]; omega
  have t1 : (A.take a ++ A.drop (a + z) ++ (A ++ S).drop (N - z)).take (N - z) = A.take a ++ A.drop (a + z) := List.take_left' l1
  have t2 : (A.take a ++ A.drop (a + z) ++ (A ++ S).drop (N - z)).drop N = S := by
    rw [List.drop_append, List.drop_of_length_le (by omega), List.nil_append, l1, List.drop_drop, show N - z + (N - (N - z)) = A.length by omega, List.drop_left]
  rw [t1, t2]
  simp
section
variable {P : Program} {n : Nat} {E : Env} {M0 : Av} {w0 : World} {S : Nat → Prop} {rs : List Res}
/-- A slice of ours that a cell of ours holds is turned no more. -/
theorem St.frzWC {i j k sz b : Nat} {new : Bool} {T e : TypeId} {ps : List Pr} {rows : List (List Pr)} {v : Value} {p : Pr} (hi : rs[i]? = some (cellsRes new b T ps)) (hj : rs[j]? = some (oweRes e sz rows v)) (hij : j ≠ i) (hk : ps[k]? = some p) (hp : Pr.le p (is v)) (hl : ∀ r ∈ rows, r.length = sz) {a : Act} {w : World} (h : St n E (Hp M0 w0 S rs) a w) :
    St n E (Hp M0 w0 S ((rs.set j noRes).set i (cellsRes new b T (ps.set k (slice sz rows))))) a w := by
  obtain ⟨M, h1, h2, h3, h4⟩ := h
  have h4 : HpH M0 w0 S rs M w := h4
  have hi' : (rs.set j (oweRes e sz rows v))[i]? = some (cellsRes new b T ps) := by rw [List.getElem?_set_ne hij]; exact hi
  obtain ⟨M', g1, g2, g3⟩ := h4.frzW hj hl
  have gi : (rs.set j noRes)[i]? = some (cellsRes new b T ps) := by rw [List.getElem?_set_ne hij]; exact hi
  refine ⟨M', h1, h2, fun s q hq => q.st _ _ _ _ _ g1 (h3 s q hq), g2.swap1 gi rfl rfl ?_⟩
  obtain ⟨c1, cs, c2, c3, c4⟩ := (g2.hold _ (List.mem_of_getElem? gi)).1
  exact ⟨c1, cs, c2, c3.set hk (fun u hu => by rw [show u = v from hp _ _ _ hu]; exact g3), c4⟩
theorem Tr.frzWC {Q : Exit → Act → World → Prop} {c : Code} (i j k : Nat) {sz b : Nat} {new : Bool} {T e : TypeId} {ps : List Pr} {rows : List (List Pr)} {v : Value} {p : Pr} (hi : rs[i]? = some (cellsRes new b T ps)) (hj : rs[j]? = some (oweRes e sz rows v)) (hij : j ≠ i) (hk : ps[k]? = some p) (hp : Pr.le p (is v)) (hl : ∀ r ∈ rows, r.length = sz)
    (kk : Tr P n E (Hp M0 w0 S ((rs.set j noRes).set i (cellsRes new b T (ps.set k (slice sz rows))))) c Q) : Tr P n E (Hp M0 w0 S rs) c Q := Tr.conv (fun _ _ hs => hs.frzWC hi hj hij hk hp hl) kk
end
theorem row_set {β : Type} {f : β → List Pr} {l : List β} {k q m : Nat} {x : β} {qs : List Pr} (h : l[k]? = some x) (hq : (f x).take q ++ qs ++ (f x).drop (q + m) = f x) : (l.map f).set k ((f x).take q ++ qs ++ (f x).drop (q + m)) = l.map f := by
  rw [hq]
  refine List.ext_getElem? fun i => ?_
  rw [List.getElem?_set]
  by_cases hi : k = i
  · subst hi
    rw [if_pos rfl, List.getElem?_map, h]
    have := lt_of_at h
    rw [if_pos (by rw [List.length_map]; exact this)]; rfl
  · rw [if_neg hi]
theorem row_setI {β : Type} {f : β → List Pr} {l : List β} {k q m : Nat} {x : β} {qs : List Pr} (h : l[k]? = some x) (hq : (f x).take q ++ qs ++ (f x).drop (q + m) = f x) : (l.map f).set ((k : Nat) : Int).toNat ((f x).take q ++ qs ++ (f x).drop (q + m)) = l.map f := by
  rw [Int.toNat_natCast]; exact row_set h hq
end Cp
namespace Cp
open Go Go.RowKit Go.Great
section
variable {P : Program} {n : Nat} {E : Env} {M0 : Av} {w0 : World} {S : Nat → Prop} {rs : List Res} {o : Oper} {g : Func} {M1 : Av} {w1 : World}
/-- One that only reads what is held. -/
theorem FunD.gen {f : FuncId} {args args' : List Pr} {pre : List Res} {res : Pr} [Free res] (hfz : ∀ M0 w0 S rs M w, HpH M0 w0 S (pre ++ rs) M w → ∃ M', Ext M w M' w ∧ HpH M0 w0 S rs M' w ∧ ∀ vs, HL M w args vs → HL M' w args' vs)
    (h : Fun P f args' res) : FunD P f args pre res pre := by
  refine ⟨h.1, fun M0 w0 S rs M w vs hI hv => ?_⟩
  obtain ⟨M', hx, hI', ha⟩ := hfz M0 w0 S rs M w hI
  refine (h.2 M' w vs hI'.bd (ha vs hv)).mono ?_
  rintro e' w' ⟨u, rfl, h2, h3⟩
  exact ⟨u, M, (), rfl, trivial, Free.free _ _ _ _ h2, Ext.below h3, (Hp M0 w0 S _).st _ _ _ h3 hI⟩
theorem Row.hd {M : Av} {w : World} {ad : Addr} {p q : Pr} {ps : List Pr} (h : Row M w ad 0 (p :: ps)) (hq : ∀ u, p.h M w u → q.h M w u) : Row M w ad 0 (q :: ps) := by
  intro j r hr
  cases j with
  | zero =>
    simp at hr; subst hr
    obtain ⟨u, h1, h2, h3, h4⟩ := h 0 p rfl
    exact ⟨u, h1, h2, h3, hq u h4⟩
  | succ j => exact h (j + 1) r (by simpa using hr)
/-- A pointer to what points to what holds a list: all are looked at. -/
theorem FunD.look {f : FuncId} {wb ob : Nat} {WT OT e : TypeId} {wps ops rows ps : List Pr} {rws : List (List Pr)} {sz k : Nat} {v : Value} {res : Pr} [Free res] (hk : ops[k]? = some (is v)) (hl : ∀ r ∈ rws, r.length = sz) (ho : ops.set k (slice sz rws) = rows)
    (h : Fun P f (ref (ref rows :: wps) :: ps) res) : FunD P f (ptr wb 0 :: ps) [cellsRes true wb WT (ptr ob 0 :: wps), cellsRes true ob OT ops, oweRes e sz rws v] res [cellsRes true wb WT (ptr ob 0 :: wps), cellsRes true ob OT ops, oweRes e sz rws v] := by
  refine FunD.gen (fun M0 w0 S rs M w hI => ?_) h
  obtain ⟨Ma, a1, a2⟩ := HpH.frzWC (i := 1) (j := 2) (k := k) hI rfl rfl (by decide) hk hl
  rw [ho] at a2
  have a3 : HpH M0 w0 S (cellsRes true ob OT rows :: cellsRes true wb WT (ptr ob 0 :: wps) :: noRes :: rs) Ma w := HpH.perm (List.Perm.swap _ _ _) a2
  obtain ⟨Mb, b1, b2, b3⟩ := HpH.freeze1 a3
  obtain ⟨Mc, c1, c2, c3⟩ := HpH.freeze1 b1
  refine ⟨Mc, (a1.trans b2).trans c2, c1.drop1, fun vs hv => ?_⟩
  match vs, hv with
  | u0 :: vs1, hv1 =>
    obtain ⟨hu0, hv2⟩ := hv1
    refine ⟨⟨⟨wb, 0, none⟩, hu0, c3.hd fun u hu => ⟨⟨ob, 0, none⟩, hu, b3.st c2⟩⟩, hv2.st ((a1.trans b2).trans c2)⟩
/-- A part of a list, and a function value that looks at memory of ours. -/
theorem FunD.lookPart {f fg : FuncId} {wb : Nat} {WT e : TypeId} {wps : List Pr} {rws : List (List Pr)} {sz k : Nat} {v : Value} {res : Pr} [Free res] (hl : ∀ r ∈ rws, r.length = sz)
    (h : Fun P f [slice sz (rws.drop k), fn (.func fg) [ref [ref wps]]] res) : FunD P f [part sz v k, fn (.func fg) [ref [ptr wb 0]]] [cellsRes true wb WT wps, oweRes e sz rws v] res [cellsRes true wb WT wps, oweRes e sz rws v] := by
  refine FunD.gen (fun M0 w0 S rs M w hI => ?_) h
  obtain ⟨Ma, a1, a2, a3⟩ := HpH.frzW (j := 1) hI rfl hl
  obtain ⟨Mb, b1, b2, b3⟩ := HpH.freeze1 (rs := noRes :: rs) a2
  refine ⟨Mb, a1.trans b2, b1.drop1, fun vs hv => ?_⟩
  match vs, hv with
  | [u0, u1], hv1 =>
    obtain ⟨hu0, hu1, _⟩ := hv1
    refine ⟨part_slice ((slice sz rws).st _ _ _ _ _ b2 a3) ((part sz v k).st _ _ _ _ _ (a1.trans b2) hu0), ?_, trivial⟩
    obtain ⟨cs, rfl, hcs⟩ := hu1
    match cs, hcs with
    | [c0], hc1 =>
      obtain ⟨ad, rfl, hrow⟩ := hc1.1
      exact ⟨_, rfl, ⟨ad, rfl, (hrow.st (a1.trans b2)).hd fun u hu => ⟨⟨wb, 0, none⟩, hu, b3⟩⟩, trivial⟩
theorem ok_index1 {I : Asn} {t e : TypeId} {x y : Operand} {k : IntKind} {i : Int} {len : Nat} {ps : List Pr} {p : Pr} (ho : o.op = .index t x y) (ht : P.underlying t = some (.array len e)) (he : oneB P e = true) (hz : sizeB P e = some 1) (hx : VL E x (agg ps)) (hy : VL E y (is (.int k i))) (h0 : 0 ≤ i) (hl : i < len)
    (hp : ps[i.toNat]? = some p) : OpOK P I o E p :=
  OpOK.same fun M w ac hev _ => by
    obtain ⟨cs, h1, ho1, h2⟩ := hx.ev hev (by simp [ho, Op.operands])
    have h3 : ac.eval y = _ := hy.ev hev (by simp [ho, Op.operands])
    obtain ⟨u, hu, hpu⟩ := h2.at_ i.toNat p hp
    refine ⟨u, ?_, hpu⟩
    simp [execOp, ho, h1, h3, Instr.index, asIntOf, run_underlying ht, h0, hl, run_size hz, Go.part, run_isAgg_one he, hu]
/-- A store beside what hangs on a slot. -/
theorem ef_storeW {t : TypeId} {x y : Operand} {q0 : Tmp} {j : Nat} {new : Bool} {b off m : Nat} {T : TypeId} {ps : Value → List Pr} {qs : List Pr} (hg : o.guard = none) (hd : o.dst = none) (ho : o.op = .store t x y) (hx : VL E x (ptr b off)) (hy : VL E y (cellsP qs))
    (hz : sizeB P t = some m) (hm : qs.length = m) (hl : ∀ v, off + m ≤ (ps v).length) : OpEf P M0 w0 S n j ⟨.one q0, fun v => cellsRes new b T (ps v)⟩ ⟨.one q0, fun v => cellsRes new b T ((ps v).take off ++ qs ++ (ps v).drop (off + m))⟩ o E any := by
  refine ⟨hg, fun M w a rs hsz he hI hj => ?_⟩
  have hj' : rs[j]? = some (SR.at_ a (SR.c (cellsRes new b T (ps (a.tmps.getD q0 undef))))) := hj
  obtain ⟨h1, h2⟩ := ef_store (P := P) (M0 := M0) (w0 := w0) (S := S) (n := n) (j := j) (new := new) (T := T) (ps := ps (a.tmps.getD q0 undef)) (b := b) (off := off) hg ho hx hy hz hm (hl _) rfl
  have h3 := h2 M w a rs hsz he hI hj'
  revert h3
  generalize (execOp a.eval o).run P w = r
  have key : ∀ v, SR.at_ (a.put o.dst v) (SR.c (cellsRes new b T ((ps (a.tmps.getD q0 undef)).take off ++ qs ++ (ps (a.tmps.getD q0 undef)).drop (off + m)))) = SR.at_ (a.put o.dst v) ⟨.one q0, fun v => cellsRes new b T ((ps v).take off ++ qs ++ (ps v).drop (off + m))⟩ := fun v => by rw [hd]; rfl
  intro h3
  cases r with
  | halt x w' => exact h3
  | ok x w' =>
    cases x
    case value v => obtain ⟨M', g1, g2, g3⟩ := h3; exact ⟨M', g1, g2, by rw [← key]; exact g3⟩
    case skip => obtain ⟨M', g1, g2, g3⟩ := h3; exact ⟨M', g1, g2, by rw [← key]; exact g3⟩
    case enter f args =>
      refine Calls.mono h3 ?_
      rintro e w'' ⟨v, M', g0, g1, g2, g3⟩
      exact ⟨v, M', g0, g1, g2, by rw [← key]; exact g3⟩
    all_goals exact h3
theorem TO.re {Q : Exit → Act → World → Prop} {ops : Array Oper} {l : List Oper} {I : Asn} (s : Nat) {q : Pr} (p : Pr) (hs : E.lookup s = some q) (hl : Pr.le q p) (k : TO P n ops l ((s, p) :: E) I Q) : TO P n ops l E I Q := by
  intro m hm a w hst
  refine k m hm a w ?_
  obtain ⟨M, h1, h2, he, h4⟩ := hst
  refine ⟨M, h1, h2, fun s' r hr => ?_, h4⟩
  simp only [List.lookup] at hr
  split at hr
  · rename_i e1
    have : s' = s := by simpa using e1
    subst this
    simp only [Option.some.injEq] at hr
    subst hr
    exact hl _ _ _ (he _ _ hs)
  · exact he _ _ hr
theorem Fin.swap01 {Q : Exit → Act → World → Prop} {x : Exit} {r r' : Res} (k : Fin n E (Hp M0 w0 S (r' :: r :: rs)) Q x) : Fin n E (Hp M0 w0 S (r :: r' :: rs)) Q x :=
  Fin.conv (fun _ _ ⟨M, h1, h2, h3, h4⟩ => ⟨M, h1, h2, h3, HpH.perm (List.Perm.swap _ _ _) h4⟩) k
/-- A function that makes a thing of ours, and what it hands back. -/
def FunV (P : Program) (f : FuncId) (args : List Pr) (res : Value → Pr) (post : Value → List Res) : Prop := FunL (α := Value) P f args [] (fun _ => True) res post
theorem FunV.of {f : FuncId} {c : Code} {ps : List Pr} {res : Value → Pr} {post : Value → List Res} (hf : P.funcs[f]? = some g) (hb : g.body = some c) (hname : (g.name == "runtime.NumGoroutine") = false) (hlen : ps.length ≤ g.ntmps)
    (h : ∀ M0 w0 S rs M1 w1, Tr P g.ntmps (penv 0 ps) (Hp M0 w0 S (extRes M1 w1 :: rs)) c (bodyPost P g (BackL M0 w0 S rs M1 w1 (fun _ : Value => True) res post))) : FunV P f ps res post :=
  FunL.of hf hb hname hlen h
theorem Fin.retV {rv : ResultVar} {q : Pr} {res : Value → Pr} {post : Value → List Res} {rs' : List Res} (v : Value) (dr : List Res) (hr : g.results = #[rv]) (h : RVal P E rs' rv q) (hl : Pr.le q (res v)) (hp : rs'.Perm (dr ++ (post v ++ extRes M1 w1 :: rs))) :
    Fin n E (Hp M0 w0 S rs') (bodyPost P g (BackL M0 w0 S rs M1 w1 (fun _ : Value => True) res post)) .ret := by
  rintro a w ⟨M, _, hd, he, hi⟩
  have hi : HpH M0 w0 S rs' M w := hi
  obtain ⟨u, hu, hp'⟩ := h M w a he (fun q hq => (hi.hold q hq).1)
  obtain ⟨h1, h2⟩ := outL (HpH.dropL (HpH.perm hp hi))
  exact ⟨hd, u, results1 hr hu, _, M, v, rfl, trivial, hl _ _ _ hp', h1, h2⟩
theorem TO.callV {Q : Exit → Act → World → Prop} {ops : Array Oper} {r : List Oper} {f : FuncId} {xs : Array Operand} {ts : Array TypeId} {ps : List Pr} {res : Value → Pr} {post : Value → List Res} {d : Nat} (hg : o.guard = none) (hd : o.dst = some d) (hn : d < n) (ho : o.op = .call { callee := .value (.func f), args := xs, argTypes := ts }) (hf : FunV P f ps res post)
    (hv : Vals E xs.toList ps) (k : ∀ v, TO P n ops r ((d, res v) :: E) (Hp M0 w0 S (post v ++ rs)) Q) : TO P n ops (o :: r) E (Hp M0 w0 S rs) Q :=
  TO.callL rs hg hd hn ho hf hv (List.Perm.refl _) fun v _ => k v
end
end Cp
namespace Cp
open Go Go.RowKit Go.Great
section
variable {P : Program} {n : Nat} {E : Env} {I : Asn} {Q : Exit → Act → World → Prop} {ops : Array Oper} {o : Oper} {r : List Oper} {g j : Nat} {b want : Bool}
theorem TO.cases (g : Nat) {b : Bool} {l : List Oper} (_hb : E.lookup g = some (bool b)) (ht : b = true → TO P n ops l E I Q) (hf : b = false → TO P n ops l E I Q) : TO P n ops l E I Q := by
  cases b
  · exact hf rfl
  · exact ht rfl
theorem TO.effG (hg : o.guard = some (j, want)) (hj : (ops[j]?).bind (·.dst) = some g) (hb : E.lookup g = some (bool b)) (hbw : b = want) (h : ∀ (K : Act → World → Prop) M w (a : Act), a.tmps.size = n → a.defers = [] → EnvOK M w E a → I.h M w →
    (∀ E' I' a' w', TO P n ops r E' I' Q → St n E' I' a' w' → K a' w') → o.wp P a w K Q) : TO P n ops (o :: r) E I Q := by
  intro k hl a w hs
  have h0 : ops[k]? = some o := by simpa using (hl 0).symm
  obtain ⟨M, hn, hd, he, hI⟩ := hs
  simp only [List.length_cons, List.range'_succ, wpOps, h0]
  have hy := yielded_ob (M := M) (w := w) (b := some b) hj (he g _ hb)
  rw [wanted_some hg hy, if_pos (by simp [hbw])]
  exact .inl (h _ M w a hn hd he hI fun E' I' a' w' hT hst => hT (k + 1) (fun j => by have := hl (j + 1); simpa [Nat.add_assoc, Nat.add_comm 1 j] using this) a' w' hst)
theorem TO.opG {d : Nat} {p : Pr} (hg : o.guard = some (j, want)) (hj : (ops[j]?).bind (·.dst) = some g) (hb : E.lookup g = some (bool b)) (hbw : b = want) (hd : o.dst = some d) (hn : d < n) (h : OpOK P I o E p) (k : TO P n ops r ((d, p) :: E) I Q) : TO P n ops (o :: r) E I Q :=
  TO.effG hg hj hb hbw fun K M w a h1 h2 h3 h4 hK => by
    refine gives_upon (h M w a (looks_env h3) h4) fun v w' hv hb' => hK _ _ _ _ k ⟨M, ?_, ?_, ?_, I.st _ _ _ hb' h4⟩
    · rw [put_size]; exact h1
    · rw [put_defers]; exact h2
    · have := h3.put (o := o) (p := p) hb' hv (fun d' hd' => by rw [hd] at hd'; cases hd'; rw [h1]; exact hn)
      rw [show upd o p E = (d, p) :: E by unfold upd; rw [hd]] at this; exact this
theorem TO.noG {d : Nat} (hg : o.guard = some (j, want)) (hj : (ops[j]?).bind (·.dst) = some g) (hb : E.lookup g = some (bool b)) (hbw : b ≠ want) (hd : o.dst = some d) (hn : d < n) (kk : TO P n ops r ((d, is undef) :: E) I Q) : TO P n ops (o :: r) E I Q := by
  intro k hl a w hs
  have h0 : ops[k]? = some o := by simpa using (hl 0).symm
  obtain ⟨M, h1, h2, he, hI⟩ := hs
  simp only [List.length_cons, List.range'_succ, wpOps, h0]
  have hy := yielded_ob (M := M) (w := w) (b := some b) hj (he g _ hb)
  rw [wanted_some hg hy, if_neg (by simp [hbw])]
  refine kk (k + 1) (fun j => by have := hl (j + 1); simpa [Nat.add_assoc, Nat.add_comm 1 j] using this) _ w ⟨M, by rw [put_size]; exact h1, by rw [put_defers]; exact h2, ?_, hI⟩
  have := he.put (o := o) (p := is undef) (v := undef) (Below.refl w.heap.size w) rfl (fun d' hd' => by rw [hd] at hd'; cases hd'; rw [h1]; exact hn)
  rw [show upd o (is undef) E = (d, is undef) :: E by unfold upd; rw [hd]] at this; exact this
variable {M0 : Av} {w0 : World} {S : Nat → Prop} {rs : List Res}
theorem TO.efcG {d : Nat} {p : Pr} (i : Nat) {R : Res} {R' : Res} (hg : o.guard = some (j, want)) (hj : (ops[j]?).bind (·.dst) = some g) (hb : E.lookup g = some (bool b)) (hbw : b = want) (hR : rs[i]? = some R) (hd : o.dst = some d) (hn : d < n) (h : OpEf P M0 w0 S n i (SR.c R) (SR.c R') { o with guard := none } E p)
    (k : TO P n ops r ((d, p) :: E) (Hp M0 w0 S (rs.set i R')) Q) : TO P n ops (o :: r) E (Hp M0 w0 S rs) Q :=
  TO.effG hg hj hb hbw fun K M w a hsz hdf he hI hK => by
    have hw : ({ o with guard := none } : Oper).wp P a w K Q := step_ef (h.2 M w a rs hsz (looks_env he) hI hR) fun v w' M' hv hx hI' => hK _ _ _ _ k ⟨M', by rw [put_size]; exact hsz, by rw [put_defers]; exact hdf, by
      intro s q hq
      simp only [List.lookup] at hq
      by_cases hs : s = d
      · subst hs; simp at hq; subst hq; show p.h M' w' ((a.put o.dst v).tmps.getD s undef); rw [hd, put_same (by rw [hsz]; exact hn)]; exact hv
      · rw [show (s == d) = false by simpa using hs] at hq; show q.h M' w' ((a.put o.dst v).tmps.getD s undef); rw [hd, put_other hs]; exact q.st _ _ _ _ _ hx (he s q hq), hI'⟩
    exact hw
end
end Cp
namespace Cp
open Go Go.RowKit Go.Great
section
variable {P : Program} {E : Env} {I : Asn} {o : Oper}
end
end Cp
namespace Go.Proofs.YtflodcidhlmaaaaGreat
open Go Go.RowKit Cp

/-- A certificate. -/
structure Crt where
  serial : Int
  issuer : List UInt8
  subject : List UInt8
  kalg : Int
  kbits : Int
  keyId : Int
  halg : Int
  hbits : Int
  from_ : Int
  to_ : Int
  auth : Bool
  path : Int
  names : List (List UInt8)
  skey : Int
  ssum : Int
abbrev txts (l : List (List UInt8)) : Pr := slice 1 (l.map fun t => [str t])
abbrev rowCr (c : Crt) : List Pr := [int c.serial, str c.issuer, str c.subject, int c.kalg, int c.kbits, int c.keyId, int c.halg, int c.hbits, int c.from_, int c.to_, bool c.auth, int c.path, txts c.names, int c.skey, int c.ssum]
abbrev certs (l : List Crt) : Pr := slice 15 (l.map rowCr)
structure Crt.fits (c : Crt) : Prop where
  issuer : c.issuer.length ≤ maxLen
  subject : c.subject.length ≤ maxLen
  names : ∀ s ∈ c.names, s.length ≤ maxLen
def keyB (n : Int) : Bool := decide (0 ≤ n) && decide (n ≤ 2147483648)
def sumB (n : Int) : Bool := decide (0 ≤ n) && decide (n < 4294967296)
def letterB (o : List UInt8) (c : UInt8) : Bool := decide (97 ≤ c.toNat ∧ c.toNat ≤ 122) || decide (65 ≤ c.toNat ∧ c.toNat ≤ 90) || decide (48 ≤ c.toNat ∧ c.toNat ≤ 57) || decide (0 ≤ Lib.indexByte o c)
def wordB (s : List UInt8) : Bool := s.all (letterB [45, 95, 46]) && decide (1 ≤ s.length ∧ s.length ≤ 32)
def nameAt (l : List (List UInt8)) (i : Nat) : Bool := named (l[i]?.getD []) && (decide (i = 0) || decide (Lib.compareBytes (l[i - 1]?.getD []) (l[i]?.getD []) = -1))
def namesB (l : List (List UInt8)) : Bool := allI (nameAt l) l.length && decide (l.length ≤ 8)
def ofB (alg bits kind : Int) : Bool := decide (strength alg bits > 0) && (catOf alg).kind == kind
def validB (c : Crt) : Bool :=
  (decide (0 ≤ c.serial) && decide (c.serial ≤ 1099511627776) && named c.issuer && named c.subject && namesB c.names) &&
  (ofB c.kalg c.kbits 2 && keyB c.keyId && ofB c.halg c.hbits 1 && keyB c.skey && sumB c.ssum) &&
  (decide (0 ≤ c.from_) && decide (c.from_ ≤ c.to_) && decide (c.to_ ≤ 40000)) && (decide (0 ≤ c.path) && decide (c.path ≤ 8) && (c.auth || c.path == 0))
def showsB (alg bits id : Int) (l : List Crt) : Bool := ofB alg bits 2 && keyB id && decide (l.length ≤ 8) && l.all validB && match l with | [] => true | c :: _ => decide (c.kalg = alg ∧ c.kbits = bits) && c.keyId == id
/-- What an endpoint shows. -/
structure Idn where
  alg : Int
  bits : Int
  keyId : Int
  chain : List Crt
abbrev rowId (x : Idn) : List Pr := [int x.alg, int x.bits, int x.keyId, certs x.chain]
abbrev idns (l : List Idn) : Pr := slice 4 (l.map rowId)
def Idn.fits (x : Idn) : Prop := ∀ c ∈ x.chain, c.fits
/-- An endpoint. -/
structure Ept where
  name : List UInt8
  least : Int
  most : Int
  suites : List Int
  own : Bool
  ids : List Idn
  anchors : List Int
  hashes : List Int
  fall : Bool
abbrev rowEp (e : Ept) : List Pr := [str e.name, int e.least, int e.most, ints e.suites, bool e.own, idns e.ids, ints e.anchors, ints e.hashes, bool e.fall]
structure Ept.fits (e : Ept) : Prop where
  name : e.name.length ≤ maxLen
  ids : ∀ x ∈ e.ids, x.fits
def ascAt (l : List Int) (i : Nat) : Bool := decide (i = 0) || decide (l[i - 1]?.getD 0 < l[i]?.getD 0)
def ascB (l : List Int) : Bool := allI (ascAt l) l.length
def suiteAt (l : List Int) (i : Nat) : Bool := decide (1 ≤ l[i]?.getD 0 ∧ l[i]?.getD 0 ≤ 16) && !((l.take i).any fun x => l[i]?.getD 0 == x)
def suitesB (l : List Int) : Bool := allI (suiteAt l) l.length
def hashB (n : Int) : Bool := (catOf n).kind == 1
def idB (x : Idn) : Bool := showsB x.alg x.bits x.keyId x.chain
def eptB (e : Ept) : Bool :=
  (wordB e.name && decide (1 ≤ e.least) && decide (e.least ≤ e.most) && decide (e.most ≤ 4) && suitesB e.suites) &&
  (decide (e.ids.length ≤ 4) && decide (e.anchors.length ≤ 16) && ascB e.anchors && ascB e.hashes) && e.ids.all idB && e.anchors.all keyB && e.hashes.all hashB
theorem any_not {β : Type} (p : β → Bool) (l : List β) : (l.any fun x => !p x) = !l.all p := by
  induction l with
  | nil => rfl
  | cons a l ih => rw [List.any_cons, List.all_cons, ih]; cases p a <;> rfl
theorem getD_at {β : Type} {l : List β} {k : Nat} {x d : β} (h : l[k]? = some x) : l[k]?.getD d = x := by rw [h]; rfl

set_option maxRecDepth 20000 in
theorem w_slIB {s : List UInt8} {c : UInt8}  : Fun Tryz.prog 218 [str s, is (.int .u8 ((c.toNat : Nat) : Int))] (int (Lib.indexByte s c)) := by
 refine Fun.of Tryz.func218 rfl rfl (by exact Nat.le_of_ble_eq_true rfl) fun M0 w0 => ?_
 refine Tr.seq (Tr.reg0 (cm rfl (Ch.nil (Fin.go (Tr.seq (Tr.reg0 (cm rfl (cm rfl (co rfl (ok_idxbyte rfl Tryz.func250 (by kernel_rfl) (by kernel_rfl) (by kernel_rfl) (by kernel_rfl) (vl rfl) (vl rfl)) (cm rfl (Ch.nil (Fin.go (Tr.ret (Fin.ret1 rfl (OutW.bse _ _) rfl ?_))))))))))))))
 · exact Pr.le_refl _
set_option maxRecDepth 20000 in
theorem w_sIB {s : List UInt8} {c : UInt8}  : Fun Tryz.prog 167 [str s, is (.int .u8 ((c.toNat : Nat) : Int))] (int (Lib.indexByte s c)) := by
 refine Fun.of Tryz.func167 rfl rfl (by exact Nat.le_of_ble_eq_true rfl) fun M0 w0 => ?_
 refine Tr.seq (Tr.reg0 (cm rfl (Ch.nil (Fin.go (Tr.seq (Tr.reg0 (cm rfl (cm rfl (co rfl (ok_call rfl (w_slIB) ⟨ke rfl, ke rfl, trivial⟩) (cm rfl (Ch.nil (Fin.go (Tr.ret (Fin.ret1 rfl (OutW.bse _ _) rfl ?_))))))))))))))
 · exact Pr.le_refl _
set_option maxRecDepth 20000 in
theorem w_Letter {o : List UInt8} {c : UInt8}  : Fun Tryz.prog 129 [is (.int .u8 ((c.toNat : Nat) : Int)), str o] (bool (letterB o c)) := by
 refine Fun.of Tryz.func129 rfl rfl (by exact Nat.le_of_ble_eq_true rfl) fun M0 w0 => ?_
 refine Tr.seq (Tr.reg0 (cm rfl (Ch.nil (Fin.go (Tr.seq (Tr.reg0 (cm rfl (co rfl (ki rfl rfl rfl rfl) (cm rfl ?_)))))))))
 refine Ch.cs 7 rfl ?_ ?_ <;> intro h1 q1
 refine cym h1 rfl (cy h1 rfl (ki rfl rfl rfl rfl) (co rfl (kpt rfl rfl h1 rfl) (cm rfl ?_)))
 refine Ch.cs 11 rfl ?_ ?_ <;> intro h2 q2
 refine cnf h2 rfl (cnf h2 rfl (cnf h2 rfl (cu rfl (cu rfl (cnf h2 rfl (co rfl (kpt rfl rfl h2 rfl) (cm rfl (cnd rfl rfl (cnd rfl rfl (cnd rfl rfl (cu rfl (cu rfl (cnd rfl rfl ?_)))))))))))))
 refine co rfl (kpt rfl rfl rfl rfl) (cm rfl ?_)
 iterate 4 refine cnd rfl rfl ?_
 refine co rfl (kpt rfl rfl rfl rfl) (cm rfl (Ch.nil (Fin.go (wk1 4 rfl (Tr.ret (Fin.ret1 rfl (OutW.bse _ _) rfl ?_))))))
 · refine bool_eq ?_; unfold letterB; simp_all; omega
 refine cym h2 rfl (cy h2 rfl (ki rfl rfl rfl rfl) (cym h2 rfl ?_))
 refine Ch.cs 14 rfl ?_ ?_ <;> intro h3 q3
 refine cym h3 rfl (cy h3 rfl (ki rfl rfl rfl rfl) (cy h2 rfl (kpt rfl rfl h3 rfl) (co rfl (kpf rfl rfl h2 rfl) (cm rfl ?_))))
 refine Ch.cs 19 rfl ?_ ?_ <;> intro h4 q4
 refine cnf h4 rfl (cnf h4 rfl (cnf h4 rfl (cu rfl (cu rfl (cnf h4 rfl (co rfl (kpt rfl rfl h4 rfl) (cm rfl ?_)))))))
 iterate 4 refine cnd rfl rfl ?_
 refine co rfl (kpt rfl rfl rfl rfl) (cm rfl (Ch.nil (Fin.go (wk1 4 rfl (Tr.ret (Fin.ret1 rfl (OutW.bse _ _) rfl ?_))))))
 · refine bool_eq ?_; unfold letterB; simp_all; omega
 refine cym h4 rfl (cy h4 rfl (ki rfl rfl rfl rfl) (cym h4 rfl ?_))
 refine Ch.cs 22 rfl ?_ ?_ <;> intro h5 q5
 refine cym h5 rfl (cy h5 rfl (ki rfl rfl rfl rfl) (cy h4 rfl (kpt rfl rfl h5 rfl) (co rfl (kpf rfl rfl h4 rfl) (cm rfl ?_))))
 refine Ch.cs 27 rfl ?_ ?_ <;> intro h6 q6
 iterate 4 refine cnf h6 rfl ?_
 refine co rfl (kpt rfl rfl h6 rfl) (cm rfl (Ch.nil (Fin.go (wk1 4 rfl (Tr.ret (Fin.ret1 rfl (OutW.bse _ _) rfl ?_))))))
 · refine bool_eq ?_; unfold letterB; simp_all; omega
 refine cym h6 rfl (cym h6 rfl (cy h6 rfl (ok_call rfl (w_sIB) ⟨ke rfl, ke rfl, trivial⟩) (cy h6 rfl (ki rfl rfl rfl rfl) (co rfl (kpf rfl rfl h6 rfl) (cm rfl (Ch.nil (Fin.go (wk1 4 rfl (Tr.ret (Fin.ret1 rfl (OutW.bse _ _) rfl ?_))))))))))
 · refine bool_eq ?_; unfold letterB; simp_all; omega
 refine cnt h5 rfl (cnt h5 rfl (cy h4 rfl (kpf rfl rfl h5 rfl) (co rfl (kpf rfl rfl h4 rfl) (cm rfl (cym rfl rfl (cym rfl rfl (cy rfl rfl (ok_call rfl (w_sIB) ⟨ke rfl, ke rfl, trivial⟩) (cy rfl rfl (ki rfl rfl rfl rfl) (co rfl (kpf rfl rfl rfl rfl) (cm rfl (Ch.nil (Fin.go (wk1 4 rfl (Tr.ret ?_))))))))))))))
 refine Fin.ret1 rfl (OutW.bse _ _) rfl ?_
 · refine bool_eq ?_; unfold letterB; simp_all; omega
 refine cnt h3 rfl (cnt h3 rfl (cy h2 rfl (kpf rfl rfl h3 rfl) (co rfl (kpf rfl rfl h2 rfl) (cm rfl (cym rfl rfl (cy rfl rfl (ki rfl rfl rfl rfl) (cym rfl rfl ?_)))))))
 refine Ch.cs 22 rfl ?_ ?_ <;> intro h7 q7
 refine cym h7 rfl (cy h7 rfl (ki rfl rfl rfl rfl) (cy rfl rfl (kpt rfl rfl h7 rfl) (co rfl (kpf rfl rfl rfl rfl) (cm rfl ?_))))
 refine Ch.cs 27 rfl ?_ ?_ <;> intro h8 q8
 iterate 4 refine cnf h8 rfl ?_
 refine co rfl (kpt rfl rfl h8 rfl) (cm rfl (Ch.nil (Fin.go (wk1 4 rfl (Tr.ret (Fin.ret1 rfl (OutW.bse _ _) rfl ?_))))))
 · refine bool_eq ?_; unfold letterB; simp_all; omega
 refine cym h8 rfl (cym h8 rfl (cy h8 rfl (ok_call rfl (w_sIB) ⟨ke rfl, ke rfl, trivial⟩) (cy h8 rfl (ki rfl rfl rfl rfl) (co rfl (kpf rfl rfl h8 rfl) (cm rfl (Ch.nil (Fin.go (wk1 4 rfl (Tr.ret (Fin.ret1 rfl (OutW.bse _ _) rfl ?_))))))))))
 · refine bool_eq ?_; unfold letterB; simp_all; omega
 refine cnt h7 rfl (cnt h7 rfl (cy rfl rfl (kpf rfl rfl h7 rfl) (co rfl (kpf rfl rfl rfl rfl) (cm rfl (cym rfl rfl (cym rfl rfl (cy rfl rfl (ok_call rfl (w_sIB) ⟨ke rfl, ke rfl, trivial⟩) (cy rfl rfl (ki rfl rfl rfl rfl) (co rfl (kpf rfl rfl rfl rfl) (cm rfl (Ch.nil (Fin.go (wk1 4 rfl (Tr.ret ?_))))))))))))))
 refine Fin.ret1 rfl (OutW.bse _ _) rfl ?_
 · refine bool_eq ?_; unfold letterB; simp_all; omega
 refine cnt h1 rfl (cnt h1 rfl (co rfl (kpf rfl rfl h1 rfl) (cm rfl (cym rfl rfl (cy rfl rfl (ki rfl rfl rfl rfl) (cym rfl rfl ?_))))))
 refine Ch.cs 14 rfl ?_ ?_ <;> intro h9 q9
 refine cym h9 rfl (cy h9 rfl (ki rfl rfl rfl rfl) (cy rfl rfl (kpt rfl rfl h9 rfl) (co rfl (kpf rfl rfl rfl rfl) (cm rfl ?_))))
 refine Ch.cs 19 rfl ?_ ?_ <;> intro h10 q10
 refine cnf h10 rfl (cnf h10 rfl (cnf h10 rfl (cu rfl (cu rfl (cnf h10 rfl (co rfl (kpt rfl rfl h10 rfl) (cm rfl ?_)))))))
 iterate 4 refine cnd rfl rfl ?_
 refine co rfl (kpt rfl rfl rfl rfl) (cm rfl (Ch.nil (Fin.go (wk1 4 rfl (Tr.ret (Fin.ret1 rfl (OutW.bse _ _) rfl ?_))))))
 · refine bool_eq ?_; unfold letterB; simp_all; omega
 refine cym h10 rfl (cy h10 rfl (ki rfl rfl rfl rfl) (cym h10 rfl ?_))
 refine Ch.cs 22 rfl ?_ ?_ <;> intro h11 q11
 refine cym h11 rfl (cy h11 rfl (ki rfl rfl rfl rfl) (cy h10 rfl (kpt rfl rfl h11 rfl) (co rfl (kpf rfl rfl h10 rfl) (cm rfl ?_))))
 refine Ch.cs 27 rfl ?_ ?_ <;> intro h12 q12
 iterate 4 refine cnf h12 rfl ?_
 refine co rfl (kpt rfl rfl h12 rfl) (cm rfl (Ch.nil (Fin.go (wk1 4 rfl (Tr.ret (Fin.ret1 rfl (OutW.bse _ _) rfl ?_))))))
 · refine bool_eq ?_; unfold letterB; simp_all; omega
 refine cym h12 rfl (cym h12 rfl (cy h12 rfl (ok_call rfl (w_sIB) ⟨ke rfl, ke rfl, trivial⟩) (cy h12 rfl (ki rfl rfl rfl rfl) (co rfl (kpf rfl rfl h12 rfl) (cm rfl (Ch.nil (Fin.go (wk1 4 rfl (Tr.ret (Fin.ret1 rfl (OutW.bse _ _) rfl ?_))))))))))
 · refine bool_eq ?_; unfold letterB; simp_all; omega
 refine cnt h11 rfl (cnt h11 rfl (cy h10 rfl (kpf rfl rfl h11 rfl) (co rfl (kpf rfl rfl h10 rfl) (cm rfl (cym rfl rfl (cym rfl rfl (cy rfl rfl (ok_call rfl (w_sIB) ⟨ke rfl, ke rfl, trivial⟩) (cy rfl rfl (ki rfl rfl rfl rfl) (co rfl (kpf rfl rfl rfl rfl) (cm rfl (Ch.nil (Fin.go (wk1 4 rfl (Tr.ret ?_))))))))))))))
 refine Fin.ret1 rfl (OutW.bse _ _) rfl ?_
 · refine bool_eq ?_; unfold letterB; simp_all; omega
 refine cnt h9 rfl (cnt h9 rfl (cy rfl rfl (kpf rfl rfl h9 rfl) (co rfl (kpf rfl rfl rfl rfl) (cm rfl (cym rfl rfl (cy rfl rfl (ki rfl rfl rfl rfl) (cym rfl rfl ?_)))))))
 refine Ch.cs 22 rfl ?_ ?_ <;> intro h13 q13
 refine cym h13 rfl (cy h13 rfl (ki rfl rfl rfl rfl) (cy rfl rfl (kpt rfl rfl h13 rfl) (co rfl (kpf rfl rfl rfl rfl) (cm rfl ?_))))
 refine Ch.cs 27 rfl ?_ ?_ <;> intro h14 q14
 iterate 4 refine cnf h14 rfl ?_
 refine co rfl (kpt rfl rfl h14 rfl) (cm rfl (Ch.nil (Fin.go (wk1 4 rfl (Tr.ret (Fin.ret1 rfl (OutW.bse _ _) rfl ?_))))))
 · refine bool_eq ?_; unfold letterB; simp_all; omega
 refine cym h14 rfl (cym h14 rfl (cy h14 rfl (ok_call rfl (w_sIB) ⟨ke rfl, ke rfl, trivial⟩) (cy h14 rfl (ki rfl rfl rfl rfl) (co rfl (kpf rfl rfl h14 rfl) (cm rfl (Ch.nil (Fin.go (wk1 4 rfl (Tr.ret (Fin.ret1 rfl (OutW.bse _ _) rfl ?_))))))))))
 · refine bool_eq ?_; unfold letterB; simp_all; omega
 refine cnt h13 rfl (cnt h13 rfl (cy rfl rfl (kpf rfl rfl h13 rfl) (co rfl (kpf rfl rfl rfl rfl) (cm rfl (cym rfl rfl (cym rfl rfl (cy rfl rfl (ok_call rfl (w_sIB) ⟨ke rfl, ke rfl, trivial⟩) (cy rfl rfl (ki rfl rfl rfl rfl) (co rfl (kpf rfl rfl rfl rfl) (cm rfl (Ch.nil (Fin.go (wk1 4 rfl (Tr.ret ?_))))))))))))))
 refine Fin.ret1 rfl (OutW.bse _ _) rfl ?_
 · refine bool_eq ?_; unfold letterB; simp_all; omega
set_option maxRecDepth 20000 in
theorem w_Word {s : List UInt8} (hs : s.length ≤ maxLen) : Fun Tryz.prog 87 [str s] (bool (wordB s)) := by
 refine Fun.of Tryz.func87 rfl rfl (by exact Nat.le_of_ble_eq_true rfl) fun M0 w0 => ?_
 refine Tr.seq (Tr.reg0 (cm rfl (Ch.nil (Fin.go (Tr.seq (Tr.seq (Tr.reg0 (cm rfl (co rfl (ok_bytes rfl Tryz.underlying9 Tryz.underlying176 Tryz.underlying5 (vl rfl) (by assumption)) (co rfl (ok_lenm rfl Tryz.underlying176 (vl rfl)) (cm rfl (Ch.nil (Fin.go (Tr.block ?_))))))))))))))
 refine Tr.lenm 6 rfl fun hl6 => (Tr.loopw [(0, _), (6, _), (7, _)] (kk3 rfl) (fun k : Nat => [(8, int ((k : Nat) : Int))]) (fun k : Nat => k ≤ (s).length ∧ (∀ j y, j < k → s[j]? = some y → (!letterB [45, 95, 46] y) = false)) (fun k : Nat => (s).length - k) 0 (⟨Nat.zero_le _, fun j y hj => absurd hj (by omega)⟩) ⟨ke rfl, trivial⟩ ?_)
 rintro k ⟨hle_k, hinv_k⟩
 refine Tr.seq (Tr.reg0 (co rfl (ki rfl rfl rfl rfl) (Ch.nil (Fin.go (Tr.seq ?_)))))
 refine Tr.cn rfl ?_ ?_ <;> intro h1 q1
 have hk_k : k < (s).length := lt_of_dec h1
 obtain ⟨c, hx_k⟩ := at_ hk_k
 refine Tr.skip (Fin.go (Tr.seq (Tr.block (Tr.seq (Tr.reg0 (co rfl (ok_indexAddr rfl Tryz.underlying176 sz5 (vl rfl) (vl rfl) (by omega) (by exact row_at (by assumption))) ?_))))))
 refine co rfl (kl1 rfl one5 rfl) (cm rfl (Ch.nil (Fin.go (Tr.seq (Tr.reg0 (cm rfl (co rfl (ok_call rfl (w_Letter) ⟨ke rfl, ke rfl, trivial⟩) (co rfl (ok_not rfl (vl rfl)) (Ch.nil (Fin.go ?_))))))))))
 refine Tr.cn rfl ?_ ?_ <;> intro h2 q2
 refine Tr.seq (Tr.reg0 (cm rfl (Ch.nil (Fin.go (Tr.ret (Fin.block_ret (Fin.then_ret (Fin.then_ret (Fin.block_ret (Fin.then_ret (Fin.ret1 rfl (OutW.bse _ _) rfl ?_)))))))))))
 · refine bool_eq ?_; unfold wordB; rw [all_hit (p := letterB [45, 95, 46]) hx_k (by simp_all)]; rfl
 refine Tr.skip (Fin.block (Fin.go (Tr.reg0 (cad rfl rfl rfl rfl (by omega) (cm rfl (Ch.nil (Fin.fam_same (k + 1) ⟨⟨hk_k, step_no (p := fun c => !letterB [45, 95, 46] c) hx_k (by simp_all) hinv_k⟩, by omega⟩ ⟨⟨_, rfl, int_succ k⟩, ke rfl, ke rfl, ke rfl, trivial⟩)))))))
 have he_k : k = (s).length := by have := ge_of_dec h1; omega
 subst he_k
 refine Tr.exit (Fin.then_exit (Fin.then_exit (Fin.block_here (Fin.go (Tr.seq (Tr.reg0 (cm rfl (co rfl (ok_lens rfl Tryz.underlying9 (vl rfl)) (co rfl (ki rfl rfl rfl rfl) (cm rfl ?_))))))))))
 refine Ch.cs 19 rfl ?_ ?_ <;> intro h3 q3
 refine cym h3 rfl (cy h3 rfl (ok_lens rfl Tryz.underlying9 (vl rfl)) (cy h3 rfl (ki rfl rfl rfl rfl) (co rfl (kpt rfl rfl h3 rfl) (cm rfl (Ch.nil (Fin.go (wk1 2 rfl (Tr.ret (Fin.ret1 rfl (OutW.bse _ _) rfl ?_)))))))))
 · refine bool_eq ?_; unfold wordB; rw [all_end hinv_k, Bool.true_and]; rw [decide_eq_decide]; omega
 refine cnt h3 rfl (cnt h3 rfl (cnt h3 rfl (co rfl (kpf rfl rfl h3 rfl) (cm rfl (Ch.nil (Fin.go (wk1 2 rfl (Tr.ret (Fin.ret1 rfl (OutW.bse _ _) rfl ?_)))))))))
 · refine bool_eq ?_; unfold wordB; rw [all_end hinv_k, Bool.true_and]; symm; rw [decide_eq_false_iff_not]; omega
set_option maxRecDepth 20000 in
theorem w_CKey {n : Int}  : Fun Tryz.prog 94 [int n] (bool (keyB n)) := by
 refine Fun.of Tryz.func94 rfl rfl (by exact Nat.le_of_ble_eq_true rfl) fun M0 w0 => ?_
 refine Tr.seq (Tr.reg0 (cm rfl (Ch.nil (Fin.go (Tr.seq (Tr.reg0 (cm rfl (co rfl (ki rfl rfl rfl rfl) (cm rfl ?_)))))))))
 refine Ch.cs 5 rfl ?_ ?_ <;> intro h1 q1
 refine cym h1 rfl (cy h1 rfl (ki rfl rfl rfl rfl) (co rfl (kpt rfl rfl h1 rfl) (cm rfl (Ch.nil (Fin.go (Tr.ret (Fin.ret1 rfl (OutW.bse _ _) rfl ?_)))))))
 · refine bool_eq ?_; unfold keyB; simp_all
 refine cnt h1 rfl (cnt h1 rfl (co rfl (kpf rfl rfl h1 rfl) (cm rfl (Ch.nil (Fin.go (Tr.ret (Fin.ret1 rfl (OutW.bse _ _) rfl ?_)))))))
 · refine bool_eq ?_; unfold keyB; simp_all; omega
theorem e_CKey : Entry Tryz.prog 94 := ⟨_, Tryz.func94, rfl, rfl⟩
set_option maxRecDepth 20000 in
theorem w_Csum {n : Int}  : Fun Tryz.prog 224 [int n] (bool (sumB n)) := by
 refine Fun.of Tryz.func224 rfl rfl (by exact Nat.le_of_ble_eq_true rfl) fun M0 w0 => ?_
 refine Tr.seq (Tr.reg0 (cm rfl (Ch.nil (Fin.go (Tr.seq (Tr.reg0 (cm rfl (co rfl (ki rfl rfl rfl rfl) (cm rfl ?_)))))))))
 refine Ch.cs 5 rfl ?_ ?_ <;> intro h1 q1
 refine cym h1 rfl (cy h1 rfl (ki rfl rfl rfl rfl) (co rfl (kpt rfl rfl h1 rfl) (cm rfl (Ch.nil (Fin.go (Tr.ret (Fin.ret1 rfl (OutW.bse _ _) rfl ?_)))))))
 · refine bool_eq ?_; unfold sumB; simp_all
 refine cnt h1 rfl (cnt h1 rfl (co rfl (kpf rfl rfl h1 rfl) (cm rfl (Ch.nil (Fin.go (Tr.ret (Fin.ret1 rfl (OutW.bse _ _) rfl ?_)))))))
 · refine bool_eq ?_; unfold sumB; simp_all; omega
set_option maxRecDepth 20000 in
theorem w_Cof {alg bits kind : Int}  : Fun Tryz.prog 223 [agg [int alg, int bits], int kind] (bool (ofB alg bits kind)) := by
 refine Fun.of Tryz.func223 rfl rfl (by exact Nat.le_of_ble_eq_true rfl) fun M0 w0 => ?_
 refine Tr.seq (Tr.reg0 (co rfl (ok_box rfl (VL.le (vl rfl) (agg_cellsP _))) (cm rfl (Ch.nil (Fin.go (Tr.seq (Tr.reg0 (co rfl (ok_loadA rfl agg44 sz44 (vl rfl) rfl rfl) (co rfl (ok_call rfl (w_Valid) ⟨ke rfl, trivial⟩) (cm rfl ?_))))))))))
 refine Ch.cs 7 rfl ?_ ?_ <;> intro h1 q1
 refine cy h1 rfl (kfa rfl fo44_0 rfl rfl) (cy h1 rfl (kl1 rfl one3 rfl) (cy h1 rfl (ok_call rfl (w_Kind) ⟨ke rfl, trivial⟩) (cym h1 rfl (cy h1 rfl (ki rfl rfl rfl rfl) (co rfl (kpt rfl rfl h1 rfl) (cm rfl (Ch.nil (Fin.go (Tr.ret (Fin.ret1 rfl (OutW.bse _ _) rfl ?_))))))))))
 · refine bool_eq ?_; unfold ofB; simp_all
 iterate 5 refine cnt h1 rfl ?_
 refine co rfl (kpf rfl rfl h1 rfl) (cm rfl (Ch.nil (Fin.go (Tr.ret (Fin.ret1 rfl (OutW.bse _ _) rfl ?_)))))
 · refine bool_eq ?_; unfold ofB; simp_all; omega
set_option maxRecDepth 20000 in
theorem w_Cnamed {l : List (List UInt8)} (hf : ∀ s ∈ l, s.length ≤ maxLen) : Fun Tryz.prog 222 [txts l] (bool (namesB l)) := by
 refine Fun.of Tryz.func222 rfl rfl (by exact Nat.le_of_ble_eq_true rfl) fun M0 w0 => ?_
 refine Tr.lenm 0 rfl fun hlm_0 => (Tr.seq (Tr.reg0 (cm rfl (Ch.nil (Fin.go (Tr.seq (Tr.seq (Tr.reg0 (cm rfl (co rfl (ok_lenm rfl Tryz.underlying83 (vl rfl)) (cm rfl (Ch.nil (Fin.go (Tr.block ?_))))))))))))))
 refine Tr.loopw [(0, _), (5, _), (6, _)] (kk3 rfl) (fun k : Nat => [(7, int ((k : Nat) : Int))]) (fun k : Nat => k ≤ (l).length ∧ (∀ j, j < k → nameAt l j = true)) (fun k : Nat => (l).length - k) 0 (⟨Nat.zero_le _, fun j hj => absurd hj (by omega)⟩) ⟨ke rfl, trivial⟩ ?_
 rintro k ⟨hle_k, hinv_k⟩
 refine Tr.seq (Tr.reg0 (co rfl (ki rfl rfl rfl rfl) (Ch.nil (Fin.go (Tr.seq ?_)))))
 refine Tr.cn rfl ?_ ?_ <;> intro h1 q1
 have hk_k : k < (l).length := lt_of_dec h1
 obtain ⟨s, hx_k⟩ := at_ hk_k
 have hsf := hf s (List.mem_of_getElem? hx_k)
 have hg := getD_at (d := []) hx_k
 refine Tr.skip (Fin.go (Tr.seq (Tr.block (Tr.seq (Tr.reg0 (cm rfl (co rfl (ok_indexAddr rfl Tryz.underlying83 sz9 (vl rfl) (vl rfl) (by omega) (row_at hx_k)) (co rfl (kl1 rfl one9 rfl) (cm rfl (cm rfl (Ch.nil (Fin.go (Tr.seq (Tr.reg0 ?_))))))))))))))
 refine cm rfl (co rfl (ok_call rfl (w_Named hsf) ⟨ke rfl, trivial⟩) (co rfl (ok_not rfl (vl rfl)) (cm rfl ?_)))
 refine Ch.cs 15 rfl ?_ ?_ <;> intro h2 q2
 refine cnf h2 rfl (cnf h2 rfl (cnf h2 rfl ?_))
 iterate 7 refine cu rfl ?_
 refine cnf h2 rfl (co rfl (kpt rfl rfl h2 rfl) (Ch.nil (Fin.go (wk5 0 5 6 7 27 rfl (Tr.cond rfl (fun _ => ?_) (fun h => nomatch h))))))
 refine Tr.seq (Tr.reg0 (cm rfl (Ch.nil (Fin.go (Tr.ret (Fin.block_ret (Fin.then_ret (Fin.then_ret (Fin.block_ret (Fin.then_ret (Fin.ret1 rfl (OutW.bse _ _) rfl ?_)))))))))))
 · refine bool_eq ?_; unfold namesB; rw [allI_hit (p := nameAt l) (k := k) (by omega) (by unfold nameAt; rw [hg]; simp_all)]; rfl
 refine cym h2 rfl (cy h2 rfl (ki rfl rfl rfl rfl) (cym h2 rfl ?_))
 refine Ch.cs 18 rfl ?_ ?_ <;> intro h3 q3
 have hk0 : 0 < k := by simpa using h3
 obtain ⟨y, hy⟩ := at_ (l := l) (k := k - 1) (by omega)
 have hgy := getD_at (d := []) hy
 refine cym h3 rfl (cym h3 rfl ?_)
 refine cy h3 rfl (ok_sub rfl (vl rfl) (vl rfl) ?hin) ?_; case hin => unfold InI; omega
 refine cy h3 rfl (ok_indexAddr rfl Tryz.underlying83 sz9 (vl rfl) (vl rfl) (by omega) (by rw [show ((k : Nat) : Int) - 1 = ((k - 1 : Nat) : Int) by omega]; exact row_at hy)) ?_
 refine cy h3 rfl (kl1 rfl one9 rfl) (cym h3 rfl (cy h3 rfl (ok_ges rfl (vl rfl) (vl rfl)) (cy h2 rfl (kpt rfl rfl h3 rfl) (co rfl (kpf rfl rfl h2 rfl) (Ch.nil (Fin.go (wk5 0 5 6 7 27 rfl ?_)))))))
 refine Tr.cn rfl ?_ ?_ <;> intro h4 q4
 refine Tr.seq (Tr.reg0 (cm rfl (Ch.nil (Fin.go (Tr.ret (Fin.block_ret (Fin.then_ret (Fin.then_ret (Fin.block_ret (Fin.then_ret (Fin.ret1 rfl (OutW.bse _ _) rfl ?_)))))))))))
 · refine bool_eq ?_; unfold namesB; rw [allI_hit (p := nameAt l) (k := k) (by omega) (by unfold nameAt; rw [hg, hgy]; simp_all; omega)]; rfl
 refine Tr.skip (Fin.block (Fin.go (Tr.reg0 (cad rfl rfl rfl rfl (by omega) (cm rfl (Ch.nil ?_))))))
 exact Fin.fam_same (k + 1) ⟨⟨hk_k, allI_step hinv_k (by unfold nameAt; rw [hg, hgy]; simp_all)⟩, by omega⟩ ⟨⟨_, rfl, int_succ k⟩, ke rfl, ke rfl, ke rfl, trivial⟩
 iterate 7 refine cnt h3 rfl ?_
 refine cy h2 rfl (kpf rfl rfl h3 rfl) (co rfl (kpf rfl rfl h2 rfl) (Ch.nil (Fin.go (wk5 0 5 6 7 27 rfl (Tr.cond rfl (fun h => nomatch h) (fun _ => ?_))))))
 refine Tr.skip (Fin.block (Fin.go (Tr.reg0 (cad rfl rfl rfl rfl (by omega) (cm rfl (Ch.nil ?_))))))
 exact Fin.fam_same (k + 1) ⟨⟨hk_k, allI_step hinv_k (by unfold nameAt; rw [hg]; simp_all)⟩, by omega⟩ ⟨⟨_, rfl, int_succ k⟩, ke rfl, ke rfl, ke rfl, trivial⟩
 have he_k : k = (l).length := by have := ge_of_dec h1; omega
 subst he_k
 refine Tr.exit (Fin.then_exit (Fin.then_exit (Fin.block_here (Fin.go (Tr.seq (Tr.reg0 (cm rfl (co rfl (ok_lenm rfl Tryz.underlying83 (vl rfl)) (co rfl (ki rfl rfl rfl rfl) (cm rfl (Ch.nil (Fin.go (Tr.ret (Fin.ret1 rfl (OutW.bse _ _) rfl ?_))))))))))))))
 · refine bool_eq ?_; unfold namesB; rw [allI_end hinv_k, Bool.true_and]; simp; omega
set_option maxRecDepth 20000 in
theorem w_Cvalid {c : Crt} (hc : c.fits) : Fun Tryz.prog 172 [agg (rowCr c)] (bool (validB c)) := by
 refine Fun.of Tryz.func172 rfl rfl (by exact Nat.le_of_ble_eq_true rfl) fun M0 w0 => ?_
 refine Tr.seq (Tr.reg0 (co rfl (ok_box rfl (VL.le (vl rfl) (agg_cellsP _))) (cm rfl (Ch.nil (Fin.go (Tr.seq (Tr.seq (Tr.reg0 (co rfl (kfa rfl fo126_0 rfl rfl) (co rfl (kl1 rfl one3 rfl) (co rfl (ki rfl rfl rfl rfl) (cm rfl ?_))))))))))))
 refine Ch.cs 6 rfl ?_ ?_ <;> intro h1 q1
 refine cnf h1 rfl (cnf h1 rfl (cnf h1 rfl (co rfl (kpt rfl rfl h1 rfl) (cm rfl ?_))))
 iterate 4 refine cnd rfl rfl ?_
 refine co rfl (kpt rfl rfl rfl rfl) (cm rfl ?_)
 iterate 4 refine cnd rfl rfl ?_
 refine co rfl (kpt rfl rfl rfl rfl) (cm rfl ?_)
 iterate 4 refine cnd rfl rfl ?_
 refine co rfl (kpt rfl rfl rfl rfl) (Ch.nil (Fin.go (wk2 1 28 rfl (Tr.cond rfl (fun _ => ?_) (fun h => nomatch h)))))
 refine Tr.seq (Tr.reg0 (cm rfl (Ch.nil (Fin.go (Tr.ret (Fin.then_ret (Fin.ret1 rfl (OutW.bse _ _) rfl ?_)))))))
 · refine bool_eq ?_; unfold validB; simp_all; omega
 refine cy h1 rfl (kfa rfl fo126_0 rfl rfl) (cy h1 rfl (kl1 rfl one3 rfl) (cy h1 rfl (ki rfl rfl rfl rfl) (co rfl (kpf rfl rfl h1 rfl) (cm rfl ?_))))
 refine Ch.cs 11 rfl ?_ ?_ <;> intro h2 q2
 iterate 4 refine cnf h2 rfl ?_
 refine co rfl (kpt rfl rfl h2 rfl) (cm rfl ?_)
 iterate 4 refine cnd rfl rfl ?_
 refine co rfl (kpt rfl rfl rfl rfl) (cm rfl ?_)
 iterate 4 refine cnd rfl rfl ?_
 refine co rfl (kpt rfl rfl rfl rfl) (Ch.nil (Fin.go (wk2 1 28 rfl (Tr.cond rfl (fun _ => ?_) (fun h => nomatch h)))))
 refine Tr.seq (Tr.reg0 (cm rfl (Ch.nil (Fin.go (Tr.ret (Fin.then_ret (Fin.ret1 rfl (OutW.bse _ _) rfl ?_)))))))
 · refine bool_eq ?_; unfold validB; simp_all; omega
 refine cy h2 rfl (kfa rfl fo126_1 rfl rfl) (cy h2 rfl (kl1 rfl one9 rfl) (cy h2 rfl (ok_call rfl (w_Named hc.issuer) ⟨ke rfl, trivial⟩) (cy h2 rfl (ok_not rfl (vl rfl)) (co rfl (kpf rfl rfl h2 rfl) (cm rfl ?_)))))
 refine Ch.cs 17 rfl ?_ ?_ <;> intro h3 q3
 iterate 4 refine cnf h3 rfl ?_
 refine co rfl (kpt rfl rfl h3 rfl) (cm rfl ?_)
 iterate 4 refine cnd rfl rfl ?_
 refine co rfl (kpt rfl rfl rfl rfl) (Ch.nil (Fin.go (wk2 1 28 rfl (Tr.cond rfl (fun _ => ?_) (fun h => nomatch h)))))
 refine Tr.seq (Tr.reg0 (cm rfl (Ch.nil (Fin.go (Tr.ret (Fin.then_ret (Fin.ret1 rfl (OutW.bse _ _) rfl ?_)))))))
 · refine bool_eq ?_; unfold validB; simp_all
 refine cy h3 rfl (kfa rfl fo126_2 rfl rfl) (cy h3 rfl (kl1 rfl one9 rfl) (cy h3 rfl (ok_call rfl (w_Named hc.subject) ⟨ke rfl, trivial⟩) (cy h3 rfl (ok_not rfl (vl rfl)) (co rfl (kpf rfl rfl h3 rfl) (cm rfl ?_)))))
 refine Ch.cs 23 rfl ?_ ?_ <;> intro h4 q4
 iterate 4 refine cnf h4 rfl ?_
 refine co rfl (kpt rfl rfl h4 rfl) (Ch.nil (Fin.go (wk2 1 28 rfl (Tr.cond rfl (fun _ => ?_) (fun h => nomatch h)))))
 refine Tr.seq (Tr.reg0 (cm rfl (Ch.nil (Fin.go (Tr.ret (Fin.then_ret (Fin.ret1 rfl (OutW.bse _ _) rfl ?_)))))))
 · refine bool_eq ?_; unfold validB; simp_all
 refine cy h4 rfl (kfa rfl fo126_10 rfl rfl) (cy h4 rfl (kl1 rfl one83 rfl) (cy h4 rfl (ok_call rfl (w_Cnamed hc.names) ⟨ke rfl, trivial⟩) (cy h4 rfl (ok_not rfl (vl rfl)) (co rfl (kpf rfl rfl h4 rfl) (Ch.nil (Fin.go (wk2 1 28 rfl ?_)))))))
 refine Tr.cn rfl ?_ ?_ <;> intro h5 q5
 refine Tr.seq (Tr.reg0 (cm rfl (Ch.nil (Fin.go (Tr.ret (Fin.then_ret (Fin.ret1 rfl (OutW.bse _ _) rfl ?_)))))))
 · refine bool_eq ?_; unfold validB; simp_all
 refine Tr.skip (Fin.go (Tr.seq (Tr.seq (Tr.reg0 (co rfl (kfa rfl fo126_3 rfl rfl) (co rfl (ok_loadA rfl agg44 sz44 (vl rfl) rfl rfl) (co rfl (ok_call rfl (w_Cof) ⟨ke rfl, ke rfl, trivial⟩) (co rfl (ok_not rfl (vl rfl)) (cm rfl ?_)))))))))
 refine Ch.cs 33 rfl ?_ ?_ <;> intro h6 q6
 iterate 4 refine cnf h6 rfl ?_
 refine co rfl (kpt rfl rfl h6 rfl) (cm rfl ?_)
 iterate 4 refine cnd rfl rfl ?_
 refine co rfl (kpt rfl rfl rfl rfl) (cm rfl ?_)
 iterate 5 refine cnd rfl rfl ?_
 refine co rfl (kpt rfl rfl rfl rfl) (cm rfl ?_)
 iterate 5 refine cnd rfl rfl ?_
 refine co rfl (kpt rfl rfl rfl rfl) (Ch.nil (Fin.go (wk2 1 58 rfl (Tr.cond rfl (fun _ => ?_) (fun h => nomatch h)))))
 refine Tr.seq (Tr.reg0 (cm rfl (Ch.nil (Fin.go (Tr.ret (Fin.then_ret (Fin.ret1 rfl (OutW.bse _ _) rfl ?_)))))))
 · refine bool_eq ?_; unfold validB; simp_all
 refine cy h6 rfl (kfa rfl fo126_4 rfl rfl) (cy h6 rfl (kl1 rfl one3 rfl) (cy h6 rfl (ok_call rfl (w_CKey) ⟨ke rfl, trivial⟩) (cy h6 rfl (ok_not rfl (vl rfl)) (co rfl (kpf rfl rfl h6 rfl) (cm rfl ?_)))))
 refine Ch.cs 39 rfl ?_ ?_ <;> intro h7 q7
 iterate 4 refine cnf h7 rfl ?_
 refine co rfl (kpt rfl rfl h7 rfl) (cm rfl ?_)
 iterate 5 refine cnd rfl rfl ?_
 refine co rfl (kpt rfl rfl rfl rfl) (cm rfl ?_)
 iterate 5 refine cnd rfl rfl ?_
 refine co rfl (kpt rfl rfl rfl rfl) (Ch.nil (Fin.go (wk2 1 58 rfl (Tr.cond rfl (fun _ => ?_) (fun h => nomatch h)))))
 refine Tr.seq (Tr.reg0 (cm rfl (Ch.nil (Fin.go (Tr.ret (Fin.then_ret (Fin.ret1 rfl (OutW.bse _ _) rfl ?_)))))))
 · refine bool_eq ?_; unfold validB; simp_all
 refine cy h7 rfl (kfa rfl fo126_5 rfl rfl) (cy h7 rfl (ok_loadA rfl agg44 sz44 (vl rfl) rfl rfl) (cy h7 rfl (ok_call rfl (w_Cof) ⟨ke rfl, ke rfl, trivial⟩) (cy h7 rfl (ok_not rfl (vl rfl)) (co rfl (kpf rfl rfl h7 rfl) (cm rfl ?_)))))
 refine Ch.cs 45 rfl ?_ ?_ <;> intro h8 q8
 iterate 5 refine cnf h8 rfl ?_
 refine co rfl (kpt rfl rfl h8 rfl) (cm rfl ?_)
 iterate 5 refine cnd rfl rfl ?_
 refine co rfl (kpt rfl rfl rfl rfl) (Ch.nil (Fin.go (wk2 1 58 rfl (Tr.cond rfl (fun _ => ?_) (fun h => nomatch h)))))
 refine Tr.seq (Tr.reg0 (cm rfl (Ch.nil (Fin.go (Tr.ret (Fin.then_ret (Fin.ret1 rfl (OutW.bse _ _) rfl ?_)))))))
 · refine bool_eq ?_; unfold validB; simp_all
 refine cy h8 rfl (kfa rfl fo126_11 rfl rfl) (cy h8 rfl (kfa rfl fo124_0 rfl rfl) (cy h8 rfl (kl1 rfl one3 rfl) (cy h8 rfl (ok_call rfl (w_CKey) ⟨ke rfl, trivial⟩) (cy h8 rfl (ok_not rfl (vl rfl)) (co rfl (kpf rfl rfl h8 rfl) (cm rfl ?_))))))
 refine Ch.cs 52 rfl ?_ ?_ <;> intro h9 q9
 iterate 5 refine cnf h9 rfl ?_
 refine co rfl (kpt rfl rfl h9 rfl) (Ch.nil (Fin.go (wk2 1 58 rfl (Tr.cond rfl (fun _ => ?_) (fun h => nomatch h)))))
 refine Tr.seq (Tr.reg0 (cm rfl (Ch.nil (Fin.go (Tr.ret (Fin.then_ret (Fin.ret1 rfl (OutW.bse _ _) rfl ?_)))))))
 · refine bool_eq ?_; unfold validB; simp_all
 refine cy h9 rfl (kfa rfl fo126_11 rfl rfl) (cy h9 rfl (kfa rfl fo124_1 rfl rfl) (cy h9 rfl (kl1 rfl one3 rfl) (cy h9 rfl (ok_call rfl (w_Csum) ⟨ke rfl, trivial⟩) (cy h9 rfl (ok_not rfl (vl rfl)) (co rfl (kpf rfl rfl h9 rfl) (Ch.nil (Fin.go (wk2 1 58 rfl ?_))))))))
 refine Tr.cn rfl ?_ ?_ <;> intro h10 q10
 refine Tr.seq (Tr.reg0 (cm rfl (Ch.nil (Fin.go (Tr.ret (Fin.then_ret (Fin.ret1 rfl (OutW.bse _ _) rfl ?_)))))))
 · refine bool_eq ?_; unfold validB; simp_all
 refine Tr.skip (Fin.go (Tr.seq (Tr.seq (Tr.reg0 (co rfl (kfa rfl fo126_6 rfl rfl) (co rfl (kl1 rfl one3 rfl) (co rfl (ki rfl rfl rfl rfl) (cm rfl ?_))))))))
 refine Ch.cs 62 rfl ?_ ?_ <;> intro h11 q11
 iterate 5 refine cnf h11 rfl ?_
 refine co rfl (kpt rfl rfl h11 rfl) (cm rfl (cnd rfl rfl (cnd rfl rfl (cnd rfl rfl (co rfl (kpt rfl rfl rfl rfl) (Ch.nil (Fin.go (wk2 1 73 rfl (Tr.cond rfl (fun _ => ?_) (fun h => nomatch h))))))))))
 refine Tr.seq (Tr.reg0 (cm rfl (Ch.nil (Fin.go (Tr.ret (Fin.then_ret (Fin.ret1 rfl (OutW.bse _ _) rfl ?_)))))))
 · refine bool_eq ?_; unfold validB; simp_all; omega
 refine cy h11 rfl (kfa rfl fo126_6 rfl rfl) (cy h11 rfl (kl1 rfl one3 rfl) (cy h11 rfl (kfa rfl fo126_7 rfl rfl) (cy h11 rfl (kl1 rfl one3 rfl) (cy h11 rfl (ki rfl rfl rfl rfl) (co rfl (kpf rfl rfl h11 rfl) (cm rfl ?_))))))
 refine Ch.cs 69 rfl ?_ ?_ <;> intro h12 q12
 refine cnf h12 rfl (cnf h12 rfl (cnf h12 rfl (co rfl (kpt rfl rfl h12 rfl) (Ch.nil (Fin.go (wk2 1 73 rfl (Tr.cond rfl (fun _ => ?_) (fun h => nomatch h))))))))
 refine Tr.seq (Tr.reg0 (cm rfl (Ch.nil (Fin.go (Tr.ret (Fin.then_ret (Fin.ret1 rfl (OutW.bse _ _) rfl ?_)))))))
 · refine bool_eq ?_; unfold validB; simp_all; omega
 refine cy h12 rfl (kfa rfl fo126_7 rfl rfl) (cy h12 rfl (kl1 rfl one3 rfl) (cy h12 rfl (ki rfl rfl rfl rfl) (co rfl (kpf rfl rfl h12 rfl) (Ch.nil (Fin.go (wk2 1 73 rfl ?_))))))
 refine Tr.cn rfl ?_ ?_ <;> intro h13 q13
 refine Tr.seq (Tr.reg0 (cm rfl (Ch.nil (Fin.go (Tr.ret (Fin.then_ret (Fin.ret1 rfl (OutW.bse _ _) rfl ?_)))))))
 · refine bool_eq ?_; unfold validB; simp_all; omega
 refine Tr.skip (Fin.go (Tr.seq (Tr.reg0 (co rfl (kfa rfl fo126_9 rfl rfl) (co rfl (kl1 rfl one3 rfl) (co rfl (ki rfl rfl rfl rfl) (cm rfl ?_)))))))
 refine Ch.cs 77 rfl ?_ ?_ <;> intro h14 q14
 refine cy h14 rfl (kfa rfl fo126_9 rfl rfl) (cy h14 rfl (kl1 rfl one3 rfl) (cy h14 rfl (ki rfl rfl rfl rfl) (co rfl (kpt rfl rfl h14 rfl) (cm rfl ?_))))
 refine Ch.cs 82 rfl ?_ ?_ <;> intro h15 q15
 refine cy h15 rfl (kfa rfl fo126_8 rfl rfl) (cy h15 rfl (kl1 rfl one4 rfl) (cym h15 rfl ?_))
 refine Ch.cs 85 rfl ?_ ?_ <;> intro h16 q16
 refine cnf h16 rfl (cnf h16 rfl (cnf h16 rfl (cy h15 rfl (kpt rfl rfl h16 rfl) (co rfl (kpt rfl rfl h15 rfl) (cm rfl (Ch.nil (Fin.go (wk1 2 rfl (Tr.ret (Fin.ret1 rfl (OutW.bse _ _) rfl ?_))))))))))
 · refine bool_eq ?_; unfold validB; simp_all
 refine cy h16 rfl (kfa rfl fo126_9 rfl rfl) (cy h16 rfl (kl1 rfl one3 rfl) (cy h16 rfl (ki rfl rfl rfl rfl) (cy h15 rfl (kpf rfl rfl h16 rfl) (co rfl (kpt rfl rfl h15 rfl) (cm rfl (Ch.nil (Fin.go (wk1 2 rfl (Tr.ret (Fin.ret1 rfl (OutW.bse _ _) rfl ?_))))))))))
 · refine bool_eq ?_; unfold validB; simp_all
 refine cnt h15 rfl (cnt h15 rfl (cnt h15 rfl (cu rfl (cu rfl (cu rfl (cnt h15 rfl (co rfl (kpf rfl rfl h15 rfl) (cm rfl (Ch.nil (Fin.go (wk1 2 rfl (Tr.ret (Fin.ret1 rfl (OutW.bse _ _) rfl ?_)))))))))))))
 · refine bool_eq ?_; unfold validB; simp_all; omega
 refine cnt h14 rfl (cnt h14 rfl (cnt h14 rfl (co rfl (kpf rfl rfl h14 rfl) (cm rfl (cnd rfl rfl (cnd rfl rfl (cnd rfl rfl (cu rfl (cu rfl (cu rfl (cnd rfl rfl (co rfl (kpf rfl rfl rfl rfl) (cm rfl ?_)))))))))))))
 refine Ch.nil (Fin.go (wk1 2 rfl (Tr.ret (Fin.ret1 rfl (OutW.bse _ _) rfl ?_))))
 · refine bool_eq ?_; unfold validB; simp_all; omega
set_option maxRecDepth 20000 in
theorem w_CCheck {c : Crt} (hc : c.fits) : Fun Tryz.prog 134 [agg (rowCr c)] (int (if validB c then 0 else 9)) := by
 refine Fun.of Tryz.func134 rfl rfl (by exact Nat.le_of_ble_eq_true rfl) fun M0 w0 => ?_
 refine Tr.seq (Tr.reg0 (co rfl (ok_box rfl (VL.le (vl rfl) (agg_cellsP _))) (cm rfl (Ch.nil (Fin.go (Tr.seq (Tr.seq (Tr.reg0 (co rfl (ok_loadA rfl agg126 sz126 (vl rfl) rfl rfl) (co rfl (ok_call rfl (w_Cvalid (by assumption)) ⟨ke rfl, trivial⟩) (co rfl (ok_not rfl (vl rfl)) (Ch.nil (Fin.go ?_)))))))))))))
 refine Tr.cn rfl ?_ ?_ <;> intro h1 q1
 refine Tr.seq (Tr.reg0 (cm rfl (Ch.nil (Fin.go (Tr.ret (Fin.then_ret (Fin.ret1 rfl (OutW.bse _ _) rfl ?_)))))))
 · refine int_eq ?_; simp_all
 refine Tr.skip (Fin.go (Tr.seq (Tr.reg0 (cm rfl (Ch.nil (Fin.go (Tr.ret (Fin.ret1 rfl (OutW.bse _ _) rfl ?_))))))))
 · refine int_eq ?_; simp_all
end Go.Proofs.YtflodcidhlmaaaaGreat
namespace Go.Proofs.YtflodcidhlmaaaaGreat
open Go Go.RowKit Cp

abbrev anyRow : List Pr := [any, any, any, any, any, any, any, any, any, any, any, any]
abbrev anyRows : List (List Pr) := [anyRow, anyRow, anyRow, anyRow, anyRow, anyRow, anyRow, anyRow, anyRow, anyRow, anyRow, anyRow, anyRow, anyRow, anyRow, anyRow]
theorem any_at {q : List Pr} {k o : Nat} (hk : k < 16) (ho : o = k * 12) : (anyRows.flatten ++ q)[o]? = some any := by
  subst ho
  have h : anyRows[k]? = some anyRow := by
    have hk' : k < anyRows.length := hk
    rw [List.getElem?_eq_getElem hk']
    have : ∀ r ∈ anyRows, r = anyRow := by intro r hr; simp at hr; exact hr
    rw [this _ (List.getElem_mem hk')]
  have hl : ∀ r ∈ anyRows, r.length = 12 := by intro r hr; simp at hr; rw [hr]; rfl
  rw [List.getElem?_append_left (by rw [flat_len hl]; show k * 12 < 16 * 12; omega)]
  exact flat_at (j := 0) hl h (by omega)
theorem any_rows {k : Nat} (hk : k < 16) : anyRows[k]? = some anyRow := by
  have hk' : k < anyRows.length := hk
  rw [List.getElem?_eq_getElem hk']
  have : ∀ r ∈ anyRows, r = anyRow := by intro r hr; simp at hr; exact hr
  rw [this _ (List.getElem_mem hk')]
theorem any_len : ∀ r ∈ anyRows, r.length = 12 := by intro r hr; simp at hr; rw [hr]; rfl
theorem anyRow_at {i : Nat} {p : Pr} (h : anyRow[i]? = some p) : p = any := by have := List.mem_of_getElem? h; simp at this; exact this
theorem agg_any {ps : List Pr} (h : ps.length = 12) : Pr.le (agg ps) (agg anyRow) := fun M w v ⟨cs, h1, h2, h3⟩ => ⟨cs, h1, h2, HL.of_at (by rw [h3.length, h]; rfl) fun i p v hp _ => by rw [anyRow_at hp]; trivial⟩
def headB (alg bits id : Int) (l : List Crt) : Bool := match l with | [] => true | c :: _ => decide (c.kalg = alg ∧ c.kbits = bits) && c.keyId == id
theorem headB_nil {alg bits id : Int} {l : List Crt} (h : l.length = 0) : headB alg bits id l = true := by rw [List.eq_nil_of_length_eq_zero h]; rfl
theorem headB_at {alg bits id : Int} {l : List Crt} {c : Crt} (h : l[0]? = some c) : headB alg bits id l = (decide (c.kalg = alg ∧ c.kbits = bits) && c.keyId == id) := by
  cases l with
  | nil => simp at h
  | cons a l => simp at h; subst h; rfl
theorem showsB_eq (alg bits id : Int) (l : List Crt) : showsB alg bits id l = (ofB alg bits 2 && keyB id && decide (l.length ≤ 8) && l.all validB && headB alg bits id l) := rfl

set_option maxRecDepth 20000 in
theorem w_use {a b : Int}  : Fun Tryz.prog 219 [int a, int b] (agg [int a, int b]) := by
 refine Fun.of Tryz.func219 rfl rfl (by exact Nat.le_of_ble_eq_true rfl) fun M0 w0 => ?_
 refine Tr.seq (Tr.regT ?_)
 refine TO.alloc rfl rfl (by decide) rfl z44 zo44 (fun b1 => ?_)
 refine TO.nil (Fin.go (Tr.seq (Tr.regT (tm rfl (tm rfl (tp rfl (ok_build (rows := [(0, [_]), (1, [_])]) rfl bl44 zo44 ⟨⟨rfl, (VL.le (vl rfl) (one_cellsP _))⟩, ⟨⟨rfl, (VL.le (vl rfl) (one_cellsP _))⟩, trivial⟩⟩ rfl) (TO.store_all 0 rfl rfl rfl (vl rfl) (VL.le (vl rfl) (agg_cellsP _)) rfl sz44 rfl rfl (TO.nil (Fin.go (Tr.ret (Fin.retX1 rfl (RVal.cell 0 rfl rfl agg44 sz44 rfl (Pr.le_refl _)) ?_)))))))))))
 · exact Pr.le_refl _
set_option maxRecDepth 20000 in
set_option maxHeartbeats 2000000 in
theorem w_Suites   : Fun Tryz.prog 168 [] (slice 12 anyRows) := by
 refine Fun.of Tryz.func168 rfl rfl (by exact Nat.le_of_ble_eq_true rfl) fun M0 w0 => ?_
 refine Tr.seq (Tr.reg0 (cm rfl (Ch.nil (Fin.go (Tr.seq (Tr.regT ?_))))))
 iterate 4 refine tp rfl (ok_call rfl (w_use) ⟨ke rfl, ke rfl, trivial⟩) ?_
 refine tp rfl (ok_build (rows := []) rfl bl44 zo44 trivial rfl) ?_
 refine TO.alloc rfl rfl (by decide) rfl z44 zo44 (fun b1 => ?_)
 refine TO.alloc rfl rfl (by decide) rfl z44 zo44 (fun b2 => ?_)
 refine TO.alloc rfl rfl (by decide) rfl z44 zo44 (fun b3 => ?_)
 refine TO.alloc rfl rfl (by decide) rfl z44 zo44 (fun b4 => ?_)
 refine TO.alloc rfl rfl (by decide) rfl z44 zo44 (fun b5 => ?_)
 refine TO.store_all 4 rfl rfl rfl (vl rfl) (VL.le (vl rfl) (agg_cellsP _)) rfl sz44 rfl rfl (TO.freeze 4 1 rfl rfl (TO.store_all 3 rfl rfl rfl (vl rfl) (VL.le (vl rfl) (agg_cellsP _)) rfl sz44 rfl rfl (TO.freeze 3 2 rfl rfl (TO.store_all 2 rfl rfl rfl (vl rfl) (VL.le (vl rfl) (agg_cellsP _)) rfl sz44 rfl rfl (TO.freeze 2 3 rfl rfl (TO.store_all 1 rfl rfl rfl (vl rfl) (VL.le (vl rfl) (agg_cellsP _)) rfl sz44 rfl rfl (TO.freeze 1 4 rfl rfl (TO.store_all 0 rfl rfl rfl (vl rfl) (VL.le (vl rfl) (agg_cellsP _)) rfl sz44 rfl rfl (TO.freeze 0 5 rfl rfl (TO.nil (Fin.go (wk5 1 2 3 4 5 rfl (Tr.seq (Tr.regT ?_))))))))))))))
 iterate 5 refine tp rfl (ok_call rfl (w_use) ⟨ke rfl, ke rfl, trivial⟩) ?_
 refine TO.alloc rfl rfl (by decide) rfl z44 zo44 (fun b6 => ?_)
 refine TO.alloc rfl rfl (by decide) rfl z44 zo44 (fun b7 => ?_)
 refine TO.alloc rfl rfl (by decide) rfl z44 zo44 (fun b8 => ?_)
 refine TO.alloc rfl rfl (by decide) rfl z44 zo44 (fun b9 => ?_)
 refine TO.alloc rfl rfl (by decide) rfl z44 zo44 (fun b10 => ?_)
 refine TO.store_all 4 rfl rfl rfl (vl rfl) (VL.le (vl rfl) (agg_cellsP _)) rfl sz44 rfl rfl (TO.freeze 4 6 rfl rfl (TO.store_all 3 rfl rfl rfl (vl rfl) (VL.le (vl rfl) (agg_cellsP _)) rfl sz44 rfl rfl (TO.freeze 3 7 rfl rfl (TO.store_all 2 rfl rfl rfl (vl rfl) (VL.le (vl rfl) (agg_cellsP _)) rfl sz44 rfl rfl (TO.freeze 2 8 rfl rfl (TO.store_all 1 rfl rfl rfl (vl rfl) (VL.le (vl rfl) (agg_cellsP _)) rfl sz44 rfl rfl (TO.freeze 1 9 rfl rfl (TO.store_all 0 rfl rfl rfl (vl rfl) (VL.le (vl rfl) (agg_cellsP _)) rfl sz44 rfl rfl (TO.freeze 0 10 rfl rfl (TO.nil (Fin.go (wk10 1 2 3 4 5 6 7 8 9 10 rfl (Tr.seq (Tr.regT ?_))))))))))))))
 iterate 4 refine tp rfl (ok_call rfl (w_use) ⟨ke rfl, ke rfl, trivial⟩) ?_
 refine TO.alloc rfl rfl (by decide) rfl z44 zo44 (fun b11 => ?_)
 refine TO.alloc rfl rfl (by decide) rfl z44 zo44 (fun b12 => ?_)
 refine TO.alloc rfl rfl (by decide) rfl z44 zo44 (fun b13 => ?_)
 refine TO.alloc rfl rfl (by decide) rfl z44 zo44 (fun b14 => ?_)
 refine TO.store_all 3 rfl rfl rfl (vl rfl) (VL.le (vl rfl) (agg_cellsP _)) rfl sz44 rfl rfl (TO.freeze 3 11 rfl rfl (TO.store_all 2 rfl rfl rfl (vl rfl) (VL.le (vl rfl) (agg_cellsP _)) rfl sz44 rfl rfl (TO.freeze 2 12 rfl rfl (TO.store_all 1 rfl rfl rfl (vl rfl) (VL.le (vl rfl) (agg_cellsP _)) rfl sz44 rfl rfl (TO.freeze 1 13 rfl rfl (TO.store_all 0 rfl rfl rfl (vl rfl) (VL.le (vl rfl) (agg_cellsP _)) rfl sz44 rfl rfl (TO.freeze 0 14 rfl rfl (TO.nil (Fin.go (wk14 1 2 3 4 5 6 7 8 9 10 11 12 13 14 rfl (Tr.seq (Tr.pad (Tr.regX mixed [none, none, none, none, none, none, none, none, none, none, none, none, none, none, none, none, none, none, none, none, none, none, none, none, none, none, none, none, none, none, none, none, none, none, none, none, none, none, none, none, none, none, none, none, none, none, none, none, none, none, none, none, none, none, none, none, none, none, none, none, none, none, none, none, none, none, none, none, none, none, none, none, none, none, none, none, none, none, none, none, some (0, 0, true, 111), some (111, 0, true, 15)] (by kernel_rfl) ?_)))))))))))))
 refine xo rfl (fun _ => ok_loadA rfl agg44 sz44 (vl rfl) rfl rfl) (xo rfl (fun _ => ok_loadA rfl agg44 sz44 (vl rfl) rfl rfl) (xo rfl (fun _ => ok_call rfl (w_use) ⟨ke rfl, ke rfl, trivial⟩) (xo rfl (fun _ => ok_loadA rfl agg44 sz44 (vl rfl) rfl rfl) (xo rfl (fun _ => ok_build (rows := [(1, [_]), (2, _), (3, _), (4, _), (5, _), (6, [_]), (7, [_])]) rfl bl106 zo106 ⟨⟨rfl, (VL.le (vl rfl) (one_cellsP _))⟩, ⟨⟨rfl, (VL.le (vl rfl) (agg_cellsP _))⟩, ⟨⟨rfl, (VL.le (vl rfl) (agg_cellsP _))⟩, ⟨⟨rfl, (VL.le (vl rfl) (agg_cellsP _))⟩, ⟨⟨rfl, (VL.le (vl rfl) (agg_cellsP _))⟩, ⟨⟨rfl, (VL.le (vl rfl) (one_cellsP _))⟩, ⟨⟨rfl, (VL.le (vl rfl) (one_cellsP _))⟩, trivial⟩⟩⟩⟩⟩⟩⟩ rfl) (xo rfl (fun _ => ok_loadA rfl agg44 sz44 (vl rfl) rfl rfl) (xo rfl (fun _ => ok_loadA rfl agg44 sz44 (vl rfl) rfl rfl) (xo rfl (fun _ => ok_call rfl (w_use) ⟨ke rfl, ke rfl, trivial⟩) (xo rfl (fun _ => ok_loadA rfl agg44 sz44 (vl rfl) rfl rfl) (xo rfl (fun _ => ok_build (rows := [(1, [_]), (2, _), (3, _), (4, _), (5, _), (6, [_]), (7, [_])]) rfl bl106 zo106 ⟨⟨rfl, (VL.le (vl rfl) (one_cellsP _))⟩, ⟨⟨rfl, (VL.le (vl rfl) (agg_cellsP _))⟩, ⟨⟨rfl, (VL.le (vl rfl) (agg_cellsP _))⟩, ⟨⟨rfl, (VL.le (vl rfl) (agg_cellsP _))⟩, ⟨⟨rfl, (VL.le (vl rfl) (agg_cellsP _))⟩, ⟨⟨rfl, (VL.le (vl rfl) (one_cellsP _))⟩, ⟨⟨rfl, (VL.le (vl rfl) (one_cellsP _))⟩, trivial⟩⟩⟩⟩⟩⟩⟩ rfl) ?_)))))))))
 iterate 4 refine xo rfl (fun _ => ok_loadA rfl agg44 sz44 (vl rfl) rfl rfl) ?_
 refine xo rfl (fun _ => ok_build (rows := [(1, [_]), (2, _), (3, _), (4, _), (5, _), (6, [_]), (7, [_])]) rfl bl106 zo106 ⟨⟨rfl, (VL.le (vl rfl) (one_cellsP _))⟩, ⟨⟨rfl, (VL.le (vl rfl) (agg_cellsP _))⟩, ⟨⟨rfl, (VL.le (vl rfl) (agg_cellsP _))⟩, ⟨⟨rfl, (VL.le (vl rfl) (agg_cellsP _))⟩, ⟨⟨rfl, (VL.le (vl rfl) (agg_cellsP _))⟩, ⟨⟨rfl, (VL.le (vl rfl) (one_cellsP _))⟩, ⟨⟨rfl, (VL.le (vl rfl) (one_cellsP _))⟩, trivial⟩⟩⟩⟩⟩⟩⟩ rfl) (xo rfl (fun _ => ok_call rfl (w_use) ⟨ke rfl, ke rfl, trivial⟩) (xo rfl (fun _ => ok_loadA rfl agg44 sz44 (vl rfl) rfl rfl) (xo rfl (fun _ => ok_loadA rfl agg44 sz44 (vl rfl) rfl rfl) (xo rfl (fun _ => ok_loadA rfl agg44 sz44 (vl rfl) rfl rfl) (xo rfl (fun _ => ok_build (rows := [(1, [_]), (2, _), (3, _), (4, _), (5, _), (6, [_]), (7, [_])]) rfl bl106 zo106 ⟨⟨rfl, (VL.le (vl rfl) (one_cellsP _))⟩, ⟨⟨rfl, (VL.le (vl rfl) (agg_cellsP _))⟩, ⟨⟨rfl, (VL.le (vl rfl) (agg_cellsP _))⟩, ⟨⟨rfl, (VL.le (vl rfl) (agg_cellsP _))⟩, ⟨⟨rfl, (VL.le (vl rfl) (agg_cellsP _))⟩, ⟨⟨rfl, (VL.le (vl rfl) (one_cellsP _))⟩, ⟨⟨rfl, (VL.le (vl rfl) (one_cellsP _))⟩, trivial⟩⟩⟩⟩⟩⟩⟩ rfl) (xo rfl (fun _ => ok_call rfl (w_use) ⟨ke rfl, ke rfl, trivial⟩) (xo rfl (fun _ => ok_loadA rfl agg44 sz44 (vl rfl) rfl rfl) (xo rfl (fun _ => ok_loadA rfl agg44 sz44 (vl rfl) rfl rfl) (xo rfl (fun _ => ok_loadA rfl agg44 sz44 (vl rfl) rfl rfl) (xo rfl (fun _ => ok_build (rows := [(1, [_]), (2, _), (3, _), (4, _), (5, _), (6, [_]), (7, [_])]) rfl bl106 zo106 ⟨⟨rfl, (VL.le (vl rfl) (one_cellsP _))⟩, ⟨⟨rfl, (VL.le (vl rfl) (agg_cellsP _))⟩, ⟨⟨rfl, (VL.le (vl rfl) (agg_cellsP _))⟩, ⟨⟨rfl, (VL.le (vl rfl) (agg_cellsP _))⟩, ⟨⟨rfl, (VL.le (vl rfl) (agg_cellsP _))⟩, ⟨⟨rfl, (VL.le (vl rfl) (one_cellsP _))⟩, ⟨⟨rfl, (VL.le (vl rfl) (one_cellsP _))⟩, trivial⟩⟩⟩⟩⟩⟩⟩ rfl) ?_))))))))))
 iterate 4 refine xo rfl (fun _ => ok_loadA rfl agg44 sz44 (vl rfl) rfl rfl) ?_
 refine xo rfl (fun _ => ok_build (rows := [(1, [_]), (2, _), (3, _), (4, _), (5, _), (6, [_]), (7, [_])]) rfl bl106 zo106 ⟨⟨rfl, (VL.le (vl rfl) (one_cellsP _))⟩, ⟨⟨rfl, (VL.le (vl rfl) (agg_cellsP _))⟩, ⟨⟨rfl, (VL.le (vl rfl) (agg_cellsP _))⟩, ⟨⟨rfl, (VL.le (vl rfl) (agg_cellsP _))⟩, ⟨⟨rfl, (VL.le (vl rfl) (agg_cellsP _))⟩, ⟨⟨rfl, (VL.le (vl rfl) (one_cellsP _))⟩, ⟨⟨rfl, (VL.le (vl rfl) (one_cellsP _))⟩, trivial⟩⟩⟩⟩⟩⟩⟩ rfl) (xo rfl (fun _ => ok_call rfl (w_use) ⟨ke rfl, ke rfl, trivial⟩) (xo rfl (fun _ => ok_loadA rfl agg44 sz44 (vl rfl) rfl rfl) (xo rfl (fun _ => ok_loadA rfl agg44 sz44 (vl rfl) rfl rfl) (xo rfl (fun _ => ok_loadA rfl agg44 sz44 (vl rfl) rfl rfl) (xo rfl (fun _ => ok_build (rows := [(1, [_]), (2, _), (3, _), (4, _), (5, _), (6, [_]), (7, [_])]) rfl bl106 zo106 ⟨⟨rfl, (VL.le (vl rfl) (one_cellsP _))⟩, ⟨⟨rfl, (VL.le (vl rfl) (agg_cellsP _))⟩, ⟨⟨rfl, (VL.le (vl rfl) (agg_cellsP _))⟩, ⟨⟨rfl, (VL.le (vl rfl) (agg_cellsP _))⟩, ⟨⟨rfl, (VL.le (vl rfl) (agg_cellsP _))⟩, ⟨⟨rfl, (VL.le (vl rfl) (one_cellsP _))⟩, ⟨⟨rfl, (VL.le (vl rfl) (one_cellsP _))⟩, trivial⟩⟩⟩⟩⟩⟩⟩ rfl) ?_)))))
 iterate 4 refine xo rfl (fun _ => ok_loadA rfl agg44 sz44 (vl rfl) rfl rfl) ?_
 refine xo rfl (fun _ => ok_build (rows := [(1, [_]), (2, _), (3, _), (4, _), (5, _), (6, [_]), (7, [_])]) rfl bl106 zo106 ⟨⟨rfl, (VL.le (vl rfl) (one_cellsP _))⟩, ⟨⟨rfl, (VL.le (vl rfl) (agg_cellsP _))⟩, ⟨⟨rfl, (VL.le (vl rfl) (agg_cellsP _))⟩, ⟨⟨rfl, (VL.le (vl rfl) (agg_cellsP _))⟩, ⟨⟨rfl, (VL.le (vl rfl) (agg_cellsP _))⟩, ⟨⟨rfl, (VL.le (vl rfl) (one_cellsP _))⟩, ⟨⟨rfl, (VL.le (vl rfl) (one_cellsP _))⟩, trivial⟩⟩⟩⟩⟩⟩⟩ rfl) (xo rfl (fun _ => ok_loadA rfl agg44 sz44 (vl rfl) rfl rfl) (xo rfl (fun _ => ok_loadA rfl agg44 sz44 (vl rfl) rfl rfl) (xo rfl (fun _ => ok_call rfl (w_use) ⟨ke rfl, ke rfl, trivial⟩) (xo rfl (fun _ => ok_call rfl (w_use) ⟨ke rfl, ke rfl, trivial⟩) (xo rfl (fun _ => ok_build (rows := [(1, [_]), (2, _), (3, _), (4, _), (5, _), (6, [_]), (7, [_])]) rfl bl106 zo106 ⟨⟨rfl, (VL.le (vl rfl) (one_cellsP _))⟩, ⟨⟨rfl, (VL.le (vl rfl) (agg_cellsP _))⟩, ⟨⟨rfl, (VL.le (vl rfl) (agg_cellsP _))⟩, ⟨⟨rfl, (VL.le (vl rfl) (agg_cellsP _))⟩, ⟨⟨rfl, (VL.le (vl rfl) (agg_cellsP _))⟩, ⟨⟨rfl, (VL.le (vl rfl) (one_cellsP _))⟩, ⟨⟨rfl, (VL.le (vl rfl) (one_cellsP _))⟩, trivial⟩⟩⟩⟩⟩⟩⟩ rfl) ?_)))))
 iterate 4 refine xo rfl (fun _ => ok_loadA rfl agg44 sz44 (vl rfl) rfl rfl) ?_
 refine xo rfl (fun _ => ok_build (rows := [(1, [_]), (2, _), (3, _), (4, _), (5, _), (6, [_]), (7, [_])]) rfl bl106 zo106 ⟨⟨rfl, (VL.le (vl rfl) (one_cellsP _))⟩, ⟨⟨rfl, (VL.le (vl rfl) (agg_cellsP _))⟩, ⟨⟨rfl, (VL.le (vl rfl) (agg_cellsP _))⟩, ⟨⟨rfl, (VL.le (vl rfl) (agg_cellsP _))⟩, ⟨⟨rfl, (VL.le (vl rfl) (agg_cellsP _))⟩, ⟨⟨rfl, (VL.le (vl rfl) (one_cellsP _))⟩, ⟨⟨rfl, (VL.le (vl rfl) (one_cellsP _))⟩, trivial⟩⟩⟩⟩⟩⟩⟩ rfl) (xo rfl (fun _ => ok_call rfl (w_use) ⟨ke rfl, ke rfl, trivial⟩) (xo rfl (fun _ => ok_loadA rfl agg44 sz44 (vl rfl) rfl rfl) (xo rfl (fun _ => ok_loadA rfl agg44 sz44 (vl rfl) rfl rfl) (xo rfl (fun _ => ok_loadA rfl agg44 sz44 (vl rfl) rfl rfl) (xo rfl (fun _ => ok_build (rows := [(1, [_]), (2, _), (3, _), (4, _), (5, _), (6, [_]), (7, [_])]) rfl bl106 zo106 ⟨⟨rfl, (VL.le (vl rfl) (one_cellsP _))⟩, ⟨⟨rfl, (VL.le (vl rfl) (agg_cellsP _))⟩, ⟨⟨rfl, (VL.le (vl rfl) (agg_cellsP _))⟩, ⟨⟨rfl, (VL.le (vl rfl) (agg_cellsP _))⟩, ⟨⟨rfl, (VL.le (vl rfl) (agg_cellsP _))⟩, ⟨⟨rfl, (VL.le (vl rfl) (one_cellsP _))⟩, ⟨⟨rfl, (VL.le (vl rfl) (one_cellsP _))⟩, trivial⟩⟩⟩⟩⟩⟩⟩ rfl) ?_)))))
 iterate 4 refine xo rfl (fun _ => ok_loadA rfl agg44 sz44 (vl rfl) rfl rfl) ?_
 refine xo rfl (fun _ => ok_build (rows := [(1, [_]), (2, _), (3, _), (4, _), (5, _), (6, [_]), (7, [_])]) rfl bl106 zo106 ⟨⟨rfl, (VL.le (vl rfl) (one_cellsP _))⟩, ⟨⟨rfl, (VL.le (vl rfl) (agg_cellsP _))⟩, ⟨⟨rfl, (VL.le (vl rfl) (agg_cellsP _))⟩, ⟨⟨rfl, (VL.le (vl rfl) (agg_cellsP _))⟩, ⟨⟨rfl, (VL.le (vl rfl) (agg_cellsP _))⟩, ⟨⟨rfl, (VL.le (vl rfl) (one_cellsP _))⟩, ⟨⟨rfl, (VL.le (vl rfl) (one_cellsP _))⟩, trivial⟩⟩⟩⟩⟩⟩⟩ rfl) ?_
 iterate 4 refine xo rfl (fun _ => ok_loadA rfl agg44 sz44 (vl rfl) rfl rfl) ?_
 refine xo rfl (fun _ => ok_build (rows := [(1, [_]), (2, _), (3, _), (4, _), (5, _), (6, [_]), (7, [_])]) rfl bl106 zo106 ⟨⟨rfl, (VL.le (vl rfl) (one_cellsP _))⟩, ⟨⟨rfl, (VL.le (vl rfl) (agg_cellsP _))⟩, ⟨⟨rfl, (VL.le (vl rfl) (agg_cellsP _))⟩, ⟨⟨rfl, (VL.le (vl rfl) (agg_cellsP _))⟩, ⟨⟨rfl, (VL.le (vl rfl) (agg_cellsP _))⟩, ⟨⟨rfl, (VL.le (vl rfl) (one_cellsP _))⟩, ⟨⟨rfl, (VL.le (vl rfl) (one_cellsP _))⟩, trivial⟩⟩⟩⟩⟩⟩⟩ rfl) ?_
 iterate 4 refine xo rfl (fun _ => ok_loadA rfl agg44 sz44 (vl rfl) rfl rfl) ?_
 refine xo rfl (fun _ => ok_build (rows := [(1, [_]), (2, _), (3, _), (4, _), (5, _), (6, [_]), (7, [_])]) rfl bl106 zo106 ⟨⟨rfl, (VL.le (vl rfl) (one_cellsP _))⟩, ⟨⟨rfl, (VL.le (vl rfl) (agg_cellsP _))⟩, ⟨⟨rfl, (VL.le (vl rfl) (agg_cellsP _))⟩, ⟨⟨rfl, (VL.le (vl rfl) (agg_cellsP _))⟩, ⟨⟨rfl, (VL.le (vl rfl) (agg_cellsP _))⟩, ⟨⟨rfl, (VL.le (vl rfl) (one_cellsP _))⟩, ⟨⟨rfl, (VL.le (vl rfl) (one_cellsP _))⟩, trivial⟩⟩⟩⟩⟩⟩⟩ rfl) ?_
 iterate 4 refine xo rfl (fun _ => ok_loadA rfl agg44 sz44 (vl rfl) rfl rfl) ?_
 refine xo rfl (fun _ => ok_build (rows := [(1, [_]), (2, _), (3, _), (4, _), (5, _), (6, [_]), (7, [_])]) rfl bl106 zo106 ⟨⟨rfl, (VL.le (vl rfl) (one_cellsP _))⟩, ⟨⟨rfl, (VL.le (vl rfl) (agg_cellsP _))⟩, ⟨⟨rfl, (VL.le (vl rfl) (agg_cellsP _))⟩, ⟨⟨rfl, (VL.le (vl rfl) (agg_cellsP _))⟩, ⟨⟨rfl, (VL.le (vl rfl) (agg_cellsP _))⟩, ⟨⟨rfl, (VL.le (vl rfl) (one_cellsP _))⟩, ⟨⟨rfl, (VL.le (vl rfl) (one_cellsP _))⟩, trivial⟩⟩⟩⟩⟩⟩⟩ rfl) (xo rfl (fun _ => ok_call rfl (w_use) ⟨ke rfl, ke rfl, trivial⟩) (xo rfl (fun _ => ok_loadA rfl agg44 sz44 (vl rfl) rfl rfl) (xo rfl (fun _ => ok_loadA rfl agg44 sz44 (vl rfl) rfl rfl) (xo rfl (fun _ => ok_loadA rfl agg44 sz44 (vl rfl) rfl rfl) (xo rfl (fun _ => ok_build (rows := [(1, [_]), (2, _), (3, _), (4, _), (5, _), (6, [_]), (7, [_])]) rfl bl106 zo106 ⟨⟨rfl, (VL.le (vl rfl) (one_cellsP _))⟩, ⟨⟨rfl, (VL.le (vl rfl) (agg_cellsP _))⟩, ⟨⟨rfl, (VL.le (vl rfl) (agg_cellsP _))⟩, ⟨⟨rfl, (VL.le (vl rfl) (agg_cellsP _))⟩, ⟨⟨rfl, (VL.le (vl rfl) (agg_cellsP _))⟩, ⟨⟨rfl, (VL.le (vl rfl) (one_cellsP _))⟩, ⟨⟨rfl, (VL.le (vl rfl) (one_cellsP _))⟩, trivial⟩⟩⟩⟩⟩⟩⟩ rfl) (Cx.ef 0 rfl rfl (by decide) (ef_buildM (xs := [.tmp 35, .tmp 40, .tmp 45, .tmp 50, .tmp 55, .tmp 60, .tmp 65, .tmp 70, .tmp 75, .tmp 80, .tmp 85, .tmp 90, .tmp 95, .tmp 100, .tmp 105, .tmp 110]) (rows := anyRows) rfl rfl (by decide) rfl rfl Tryz.underlying152 sz106 z106 rfl (by decide) ⟨⟨(by exact rfl), VL.le (vl rfl) (Pr.le_trans (agg_any rfl) (agg_cellsP _))⟩, ⟨⟨(by exact rfl), VL.le (vl rfl) (Pr.le_trans (agg_any rfl) (agg_cellsP _))⟩, ⟨⟨(by exact rfl), VL.le (vl rfl) (Pr.le_trans (agg_any rfl) (agg_cellsP _))⟩, ⟨⟨(by exact rfl), VL.le (vl rfl) (Pr.le_trans (agg_any rfl) (agg_cellsP _))⟩, ⟨⟨(by exact rfl), VL.le (vl rfl) (Pr.le_trans (agg_any rfl) (agg_cellsP _))⟩, ⟨⟨(by exact rfl), VL.le (vl rfl) (Pr.le_trans (agg_any rfl) (agg_cellsP _))⟩, ⟨⟨(by exact rfl), VL.le (vl rfl) (Pr.le_trans (agg_any rfl) (agg_cellsP _))⟩, ⟨⟨(by exact rfl), VL.le (vl rfl) (Pr.le_trans (agg_any rfl) (agg_cellsP _))⟩, ⟨⟨(by exact rfl), VL.le (vl rfl) (Pr.le_trans (agg_any rfl) (agg_cellsP _))⟩, ⟨⟨(by exact rfl), VL.le (vl rfl) (Pr.le_trans (agg_any rfl) (agg_cellsP _))⟩, ⟨⟨(by exact rfl), VL.le (vl rfl) (Pr.le_trans (agg_any rfl) (agg_cellsP _))⟩, ⟨⟨(by exact rfl), VL.le (vl rfl) (Pr.le_trans (agg_any rfl) (agg_cellsP _))⟩, ⟨⟨(by exact rfl), VL.le (vl rfl) (Pr.le_trans (agg_any rfl) (agg_cellsP _))⟩, ⟨⟨(by exact rfl), VL.le (vl rfl) (Pr.le_trans (agg_any rfl) (agg_cellsP _))⟩, ⟨⟨(by exact rfl), VL.le (vl rfl) (Pr.le_trans (agg_any rfl) (agg_cellsP _))⟩, ⟨⟨(by exact rfl), VL.le (vl rfl) (Pr.le_trans (agg_any rfl) (agg_cellsP _))⟩, trivial⟩⟩⟩⟩⟩⟩⟩⟩⟩⟩⟩⟩⟩⟩⟩⟩ (by decide) (by decide)) ?_))))))
 refine Cx.ef 0 rfl rfl (by decide) (ef_move rfl rfl (by decide) rfl (vl rfl)) ?_
 refine Cx.nil ⟨rfl, ?_⟩
 refine FinX.open_ 0 15 rfl rfl (fun v1 => ?_)
 refine FinX.done (AllC.cons (AllC.map _)) (Fin.go (wk1 15 rfl (Tr.seq (Tr.seq (Tr.openM 0 rfl fun b15 cap15 sp15 hv15 hg15 hm15 hs15 => ?_)))))
 subst hv15
 refine Tr.reg0 (cm rfl (co rfl (okb_len rfl Tryz.underlying152 ⟨_, rfl, andIs_is _ _⟩) (cm rfl (Ch.nil (Fin.go (Tr.block (Tr.loopw [(15, _), (113, _)] (kk2 rfl) (fun k : Nat => [(114, int ((k : Nat) : Int))]) (fun k : Nat => k ≤ (anyRows.length)) (fun k : Nat => (anyRows.length) - k) 0 (Nat.zero_le _) ⟨ke rfl, trivial⟩ ?_)))))))
 rintro k hle_k
 refine Tr.seq (Tr.reg0 (co rfl (ki rfl rfl rfl rfl) (Ch.nil (Fin.go (Tr.seq ?_)))))
 refine Tr.cn rfl ?_ ?_ <;> intro h1 q1
 have hk_k : k < (anyRows.length) := lt_of_dec h1
 have hk16 : k < 16 := hk_k
 refine Tr.skip (Fin.go (Tr.seq (Tr.block (Tr.seq (Tr.reg0 (cm rfl (cm rfl (Ch.nil (Fin.go (Tr.regT (tm rfl (tm rfl (tm rfl ?_)))))))))))))
 refine tp rfl (ok_add rfl (vl rfl) (vl rfl) ?hin) ?_; case hin => unfold InI; omega
 refine tp rfl (okp_indexSl rfl Tryz.underlying152 sz106 ⟨_, rfl, andIs_is _ _⟩ (vl rfl) (by omega) (by omega)) (tp rfl (okp_fieldAddr rfl fo106_0 (vl rfl)) ?_)
 refine TO.ef0 0 rfl rfl (ef_store rfl rfl (vl rfl) (VL.le (vl rfl) (one_any _)) sz3 rfl (by rw [List.length_append, flat_len any_len]; show _ ≤ 16 * 12 + _; omega) (put_any (any_at hk16 (by omega)))) ?_
 refine TO.nil (Fin.block (Fin.go (Tr.reg0 (cad rfl rfl rfl rfl (by omega) (cm rfl (Ch.nil (Fin.fam_same (k + 1) ⟨hk_k, by omega⟩ ⟨⟨_, rfl, int_succ k⟩, ke rfl, ke rfl, trivial⟩)))))))
 have he_k : k = (anyRows.length) := by have := ge_of_dec h1; omega
 subst he_k
 refine Tr.exit (Fin.then_exit (Fin.then_exit (Fin.block_here (Fin.go (Tr.seq ?_)))))
 refine Tr.frzS (sz := 12) anyRows 0 15 rfl rfl (andIs_is _ _) any_len hg15 hm15 (by rw [List.length_map]; exact hs15) ?_
 refine Tr.reg0 (cm rfl (cm rfl (Ch.nil (Fin.go (Tr.ret (Fin.ret1 rfl (OutW.bse _ _) rfl ?_))))))
 · exact andIs_le _ _
set_option maxRecDepth 20000 in
theorem w_Suite {code : Int}  : Fun Tryz.prog 130 [int code] (tup [agg anyRow, int (if 1 ≤ code ∧ code ≤ 16 then 0 else 8)]) := by
 refine Fun.of Tryz.func130 rfl rfl (by exact Nat.le_of_ble_eq_true rfl) fun M0 w0 => ?_
 have hL : anyRows.length = 16 := rfl
 refine Tr.seq (Tr.regT ?_)
 refine TO.alloc rfl rfl (by decide) rfl z106 zo106 (fun b1 => ?_)
 refine tm rfl (TO.nil (Fin.go (Tr.seq (Tr.reg0 (co rfl (ok_call rfl (w_Suites) trivial) (cm rfl (Ch.nil (Fin.go (Tr.seq (Tr.seq (Tr.reg0 (cm rfl (co rfl (ki rfl rfl rfl rfl) ?_)))))))))))))
 refine cm rfl ?_
 refine Ch.cs 8 rfl ?_ ?_ <;> intro h1 q1
 iterate 4 refine cnf h1 rfl ?_
 refine co rfl (kpt rfl rfl h1 rfl) (Ch.nil (Fin.go (Tr.cond rfl (fun _ => ?_) (fun h => nomatch h))))
 refine Tr.seq (Tr.regT (tp rfl (ok_build (rows := []) rfl bl106 zo106 trivial rfl) (TO.store_all 0 rfl rfl rfl (vl rfl) (VL.le (vl rfl) (agg_cellsP _)) rfl sz106 rfl rfl (tm rfl (TO.nil (Fin.go (wk2 2 3 rfl (Tr.ret (Fin.then_ret (Fin.retX2 rfl (RVal.cell 0 rfl rfl agg106 sz106 rfl (Pr.le_refl _)) (RVal.tmp rfl (Pr.le_refl _)) ?_))))))))))
 · exact tup_le ⟨agg_any rfl, int_eq (by rw [if_neg]; simp_all; omega), trivial⟩
 refine cym h1 rfl (cym h1 rfl (cy h1 rfl (ok_len rfl Tryz.underlying152 (vl rfl)) (cy h1 rfl (ki rfl rfl rfl rfl) (co rfl (kpf rfl rfl h1 rfl) (Ch.nil (Fin.go ?_))))))
 refine Tr.cn rfl ?_ ?_ <;> intro h2 q2
 refine Tr.seq (Tr.regT (tp rfl (ok_build (rows := []) rfl bl106 zo106 trivial rfl) (TO.store_all 0 rfl rfl rfl (vl rfl) (VL.le (vl rfl) (agg_cellsP _)) rfl sz106 rfl rfl (tm rfl (TO.nil (Fin.go (wk2 2 3 rfl (Tr.ret (Fin.then_ret (Fin.retX2 rfl (RVal.cell 0 rfl rfl agg106 sz106 rfl (Pr.le_refl _)) (RVal.tmp rfl (Pr.le_refl _)) ?_))))))))))
 · exact tup_le ⟨agg_any rfl, int_eq (by rw [if_neg]; simp_all), trivial⟩
 have hin : 1 ≤ code ∧ code ≤ 16 := by omega
 refine Tr.skip (Fin.go (Tr.seq (Tr.regT (tm rfl (tm rfl ?_)))))
 refine tp rfl (ok_sub rfl (vl rfl) (vl rfl) ?hin) ?_; case hin => unfold InI; omega
 refine tp rfl (ok_indexAddr rfl Tryz.underlying152 sz106 (vl rfl) (vl rfl) (by omega) (any_rows (by omega))) (tp rfl (ok_loadA rfl agg106 sz106 (vl rfl) rfl rfl) (TO.store_all 0 rfl rfl rfl (vl rfl) (VL.le (vl rfl) (agg_cellsP _)) rfl sz106 rfl rfl (tm rfl (TO.nil (Fin.go (wk2 2 3 rfl (Tr.ret (Fin.retX2 rfl (RVal.cell 0 rfl rfl agg106 sz106 rfl (Pr.le_refl _)) (RVal.tmp rfl (Pr.le_refl _)) ?_))))))))
 · exact tup_le ⟨Pr.le_refl _, int_eq (by rw [if_pos hin]), trivial⟩
end Go.Proofs.YtflodcidhlmaaaaGreat
namespace Go.Proofs.YtflodcidhlmaaaaGreat
open Go Go.RowKit Cp
set_option maxRecDepth 20000 in
theorem w_Shows {alg bits id : Int} {l : List Crt} (hf : ∀ c ∈ l, c.fits) : Fun Tryz.prog 90 [agg [int alg, int bits], int id, certs l] (bool (showsB alg bits id l)) := by
 refine Fun.of Tryz.func90 rfl rfl (by exact Nat.le_of_ble_eq_true rfl) fun M0 w0 => ?_
 refine Tr.lenm 2 rfl fun hlm_2 => (Tr.seq (Tr.reg0 (co rfl (ok_box rfl (VL.le (vl rfl) (agg_cellsP _))) (cm rfl (Ch.nil (Fin.go (Tr.seq (Tr.seq (Tr.reg0 (co rfl (ok_loadA rfl agg44 sz44 (vl rfl) rfl rfl) (co rfl (ok_call rfl (w_Valid) ⟨ke rfl, trivial⟩) (co rfl (ok_not rfl (vl rfl)) (cm rfl ?_)))))))))))))
 refine Ch.cs 12 rfl ?_ ?_ <;> intro h1 q1
 iterate 4 refine cnf h1 rfl ?_
 refine co rfl (kpt rfl rfl h1 rfl) (cm rfl (cnd rfl rfl (cnd rfl rfl (cnd rfl rfl (co rfl (kpt rfl rfl rfl rfl) (cm rfl (cnd rfl rfl (cnd rfl rfl (cnd rfl rfl (co rfl (kpt rfl rfl rfl rfl) (Ch.nil (Fin.go (wk4 1 2 3 27 rfl (Tr.cond rfl (fun _ => ?_) (fun h => nomatch h)))))))))))))))
 refine Tr.seq (Tr.reg0 (cm rfl (Ch.nil (Fin.go (Tr.ret (Fin.then_ret (Fin.ret1 rfl (OutW.bse _ _) rfl ?_)))))))
 · refine bool_eq ?_; rw [showsB_eq]; unfold ofB; simp_all; omega
 refine cy h1 rfl (kfa rfl fo44_0 rfl rfl) (cy h1 rfl (kl1 rfl one3 rfl) (cy h1 rfl (ok_call rfl (w_Kind) ⟨ke rfl, trivial⟩) (cy h1 rfl (ki rfl rfl rfl rfl) (co rfl (kpf rfl rfl h1 rfl) (cm rfl ?_)))))
 refine Ch.cs 18 rfl ?_ ?_ <;> intro h2 q2
 refine cnf h2 rfl (cnf h2 rfl (cnf h2 rfl (co rfl (kpt rfl rfl h2 rfl) (cm rfl (cnd rfl rfl (cnd rfl rfl (cnd rfl rfl (co rfl (kpt rfl rfl rfl rfl) (Ch.nil (Fin.go (wk4 1 2 3 27 rfl (Tr.cond rfl (fun _ => ?_) (fun h => nomatch h)))))))))))))
 refine Tr.seq (Tr.reg0 (cm rfl (Ch.nil (Fin.go (Tr.ret (Fin.then_ret (Fin.ret1 rfl (OutW.bse _ _) rfl ?_)))))))
 · refine bool_eq ?_; rw [showsB_eq]; unfold ofB; simp_all
 refine cym h2 rfl (cy h2 rfl (ok_call rfl (w_CKey) ⟨ke rfl, trivial⟩) (cy h2 rfl (ok_not rfl (vl rfl)) (co rfl (kpf rfl rfl h2 rfl) (cm rfl ?_))))
 refine Ch.cs 23 rfl ?_ ?_ <;> intro h3 q3
 refine cnf h3 rfl (cnf h3 rfl (cnf h3 rfl (co rfl (kpt rfl rfl h3 rfl) (Ch.nil (Fin.go (wk4 1 2 3 27 rfl (Tr.cond rfl (fun _ => ?_) (fun h => nomatch h))))))))
 refine Tr.seq (Tr.reg0 (cm rfl (Ch.nil (Fin.go (Tr.ret (Fin.then_ret (Fin.ret1 rfl (OutW.bse _ _) rfl ?_)))))))
 · refine bool_eq ?_; rw [showsB_eq]; unfold ofB; simp_all
 refine cym h3 rfl (cy h3 rfl (ok_lenm rfl Tryz.underlying45 (vl rfl)) (cy h3 rfl (ki rfl rfl rfl rfl) (co rfl (kpf rfl rfl h3 rfl) (Ch.nil (Fin.go (wk4 1 2 3 27 rfl ?_))))))
 refine Tr.cn rfl ?_ ?_ <;> intro h4 q4
 refine Tr.seq (Tr.reg0 (cm rfl (Ch.nil (Fin.go (Tr.ret (Fin.then_ret (Fin.ret1 rfl (OutW.bse _ _) rfl ?_)))))))
 · refine bool_eq ?_; rw [showsB_eq]; unfold ofB; simp_all; omega
 refine Tr.skip (Fin.go (Tr.seq (Tr.seq (Tr.reg0 (cm rfl (co rfl (ok_lenm rfl Tryz.underlying45 (vl rfl)) (cm rfl (Ch.nil (Fin.go (Tr.block (Tr.loopw [(1, _), (2, _), (3, _), (28, _), (29, _)] (kk5 rfl) (fun k : Nat => [(30, int ((k : Nat) : Int))]) (fun k : Nat => k ≤ (l).length ∧ (∀ j y, j < k → l[j]? = some y → (!validB y) = false)) (fun k : Nat => (l).length - k) 0 (⟨Nat.zero_le _, fun j y hj => absurd hj (by omega)⟩) ⟨ke rfl, trivial⟩ ?_)))))))))))
 rintro k ⟨hle_k, hinv_k⟩
 refine Tr.seq (Tr.reg0 (co rfl (ki rfl rfl rfl rfl) (Ch.nil (Fin.go (Tr.seq ?_)))))
 refine Tr.cn rfl ?_ ?_ <;> intro h5 q5
 have hk_k : k < (l).length := lt_of_dec h5
 obtain ⟨c, hx_k⟩ := at_ hk_k
 have hcf := hf c (List.mem_of_getElem? hx_k)
 refine Tr.skip (Fin.go (Tr.seq (Tr.block (Tr.seq (Tr.regT (tp rfl (ok_indexAddr rfl Tryz.underlying45 sz126 (vl rfl) (vl rfl) (by omega) (by exact row_at (by assumption))) ?_))))))
 refine tp rfl (ok_loadA rfl agg126 sz126 (vl rfl) rfl rfl) ?_
 refine TO.alloc rfl rfl (by decide) rfl z126 zo126 (fun b1 => ?_)
 refine TO.store_all 0 rfl rfl rfl (vl rfl) (VL.le (vl rfl) (agg_cellsP _)) rfl sz126 rfl rfl (TO.freeze 0 8 rfl rfl (TO.nil (Fin.go (Tr.seq (Tr.reg0 (co rfl (ok_loadA rfl agg126 sz126 (vl rfl) rfl rfl) (co rfl (ok_call rfl (w_CCheck hcf) ⟨ke rfl, trivial⟩) (co rfl (ki rfl rfl rfl rfl) (Ch.nil (Fin.go (wk7 1 2 3 28 29 30 36 rfl ?_)))))))))))
 refine Tr.cn rfl ?_ ?_ <;> intro h6 q6
 refine Tr.seq (Tr.reg0 (cm rfl (Ch.nil (Fin.go (Tr.ret (Fin.block_ret (Fin.then_ret (Fin.then_ret (Fin.block_ret (Fin.then_ret (Fin.ret1 rfl (OutW.bse _ _) rfl ?_)))))))))))
 · refine bool_eq ?_; rw [showsB_eq]; unfold ofB; rw [all_hit (p := validB) hx_k (by simp_all)]; simp
 refine Tr.skip (Fin.block (Fin.go (Tr.reg0 (cad rfl rfl rfl rfl (by omega) (cm rfl (Ch.nil (Fin.fam_same (k + 1) ⟨⟨hk_k, step_no (p := fun c => !validB c) hx_k (by simp_all) hinv_k⟩, by omega⟩ ⟨⟨_, rfl, int_succ k⟩, ke rfl, ke rfl, ke rfl, ke rfl, ke rfl, trivial⟩)))))))
 have he_k : k = (l).length := by have := ge_of_dec h5; omega
 subst he_k
 have hall := all_end hinv_k
 refine Tr.exit (Fin.then_exit (Fin.then_exit (Fin.block_here (Fin.go (Tr.seq (Tr.reg1 mixed (by kernel_rfl) (cm rfl (co rfl (ok_lenm rfl Tryz.underlying45 (vl rfl)) (co rfl (ki rfl rfl rfl rfl) (cm rfl ?_))))))))))
 refine Ch.cs 41 rfl ?_ ?_ <;> intro h7 q7
 iterate 7 refine cnf h7 rfl ?_
 iterate 6 refine cu rfl ?_
 refine cnf h7 rfl (co rfl (kpt rfl rfl h7 rfl) (cm rfl (Ch.nil (Fin.go (wk1 6 rfl (Tr.ret (Fin.ret1 rfl (OutW.bse _ _) rfl ?_)))))))
 · refine bool_eq ?_; rw [showsB_eq]; unfold ofB; rw [hall, headB_nil (by simp_all)]; simp_all
 obtain ⟨c0, hc0⟩ := at_ (l := l) (k := 0) (by have := h7; simp at this; exact List.length_pos_iff.2 this)
 refine cym h7 rfl ?_
 refine cy h7 rfl (ok_indexAddr rfl Tryz.underlying45 sz126 (vl rfl) (vl rfl) (by omega) (row_at (k := 0) hc0)) ?_
 refine cy h7 rfl (kfa rfl fo126_3 rfl rfl) (cy h7 rfl (ok_loadA rfl agg44 sz44 (vl rfl) rfl rfl) (cy h7 rfl (ok_loadA rfl agg44 sz44 (vl rfl) rfl rfl) (cy h7 rfl (ok_eq44 rfl (vl rfl) (vl rfl)) (cym h7 rfl ?_))))
 refine Ch.cs 48 rfl ?_ ?_ <;> intro h8 q8
 refine cym h8 rfl ?_
 refine cy h8 rfl (ok_indexAddr rfl Tryz.underlying45 sz126 (vl rfl) (vl rfl) (by omega) (row_at (k := 0) hc0)) ?_
 refine cy h8 rfl (kfa rfl fo126_4 rfl rfl) (cy h8 rfl (kl1 rfl one3 rfl) (cym h8 rfl (cy h8 rfl (ki rfl rfl rfl rfl) (cy h7 rfl (kpt rfl rfl h8 rfl) (co rfl (kpf rfl rfl h7 rfl) (cm rfl (Ch.nil (Fin.go (wk1 6 rfl (Tr.ret (Fin.ret1 rfl (OutW.bse _ _) rfl ?_)))))))))))
 · refine bool_eq ?_; rw [showsB_eq]; unfold ofB; rw [hall, headB_at hc0]; clear hall hinv_k hf hc0; simp_all; omega
 iterate 6 refine cnt h8 rfl ?_
 refine cy h7 rfl (kpf rfl rfl h8 rfl) (co rfl (kpf rfl rfl h7 rfl) (cm rfl (Ch.nil (Fin.go (wk1 6 rfl (Tr.ret (Fin.ret1 rfl (OutW.bse _ _) rfl ?_)))))))
 · refine bool_eq ?_; rw [showsB_eq]; unfold ofB; rw [hall, headB_at hc0]; clear hall hinv_k hf hc0; simp_all
set_option maxRecDepth 20000 in
theorem w_ascends {l : List Int}  : Fun Tryz.prog 89 [ints l] (bool (ascB l)) := by
 refine Fun.of Tryz.func89 rfl rfl (by exact Nat.le_of_ble_eq_true rfl) fun M0 w0 => ?_
 refine Tr.lenm 0 rfl fun hlm_0 => (Tr.seq (Tr.reg0 (cm rfl (Ch.nil (Fin.go (Tr.seq (Tr.seq (Tr.reg0 (cm rfl (co rfl (ok_lenm rfl Tryz.underlying22 (vl rfl)) (cm rfl (Ch.nil (Fin.go (Tr.block ?_))))))))))))))
 refine Tr.loopw [(0, _), (5, _)] (kk2 rfl) (fun k : Nat => [(6, int ((k : Nat) : Int))]) (fun k : Nat => k ≤ (l).length ∧ (∀ j, j < k → ascAt l j = true)) (fun k : Nat => (l).length - k) 0 (⟨Nat.zero_le _, fun j hj => absurd hj (by omega)⟩) ⟨ke rfl, trivial⟩ ?_
 rintro k ⟨hle_k, hinv_k⟩
 refine Tr.seq (Tr.reg0 (co rfl (ki rfl rfl rfl rfl) (Ch.nil (Fin.go (Tr.seq ?_)))))
 refine Tr.cn rfl ?_ ?_ <;> intro h1 q1
 have hk_k : k < (l).length := lt_of_dec h1
 obtain ⟨x, hx_k⟩ := at_ hk_k
 have hg := getD_at (d := (0 : Int)) hx_k
 refine Tr.skip (Fin.go (Tr.seq (Tr.block (Tr.seq (Tr.reg0 (cm rfl (cm rfl (Ch.nil (Fin.go (Tr.seq (Tr.reg1 mixed (by kernel_rfl) (cm rfl (co rfl (ki rfl rfl rfl rfl) ?_)))))))))))))
 refine cm rfl ?_
 refine Ch.cs 11 rfl ?_ ?_ <;> intro h2 q2
 have hk0 : 0 < k := by simpa using h2
 obtain ⟨y, hy⟩ := at_ (l := l) (k := k - 1) (by omega)
 have hgy := getD_at (d := (0 : Int)) hy
 refine cym h2 rfl (cym h2 rfl ?_)
 refine cy h2 rfl (ok_sub rfl (vl rfl) (vl rfl) ?hin) ?_; case hin => unfold InI; omega
 refine cy h2 rfl (ok_indexAddr rfl Tryz.underlying22 sz3 (vl rfl) (vl rfl) (by omega) (by rw [show ((k : Nat) : Int) - 1 = ((k - 1 : Nat) : Int) by omega]; exact row_at hy)) ?_
 refine cy h2 rfl (kl1 rfl one3 rfl) (cym h2 rfl (cym h2 rfl (cy h2 rfl (ok_indexAddr rfl Tryz.underlying22 sz3 (vl rfl) (vl rfl) (by omega) (row_at hx_k)) (cy h2 rfl (kl1 rfl one3 rfl) (cy h2 rfl (ki rfl rfl rfl rfl) (co rfl (kpt rfl rfl h2 rfl) (Ch.nil (Fin.go (wk4 0 5 6 22 rfl ?_)))))))))
 refine Tr.cn rfl ?_ ?_ <;> intro h3 q3
 refine Tr.seq (Tr.reg0 (cm rfl (Ch.nil (Fin.go (Tr.ret (Fin.block_ret (Fin.then_ret (Fin.then_ret (Fin.block_ret (Fin.then_ret (Fin.ret1 rfl (OutW.bse _ _) rfl ?_)))))))))))
 · refine bool_eq ?_; unfold ascB; exact (allI_hit (p := ascAt l) (k := k) (by omega) (by unfold ascAt; rw [hg, hgy]; simp_all; omega)).symm
 refine Tr.skip (Fin.block (Fin.go (Tr.reg0 (cad rfl rfl rfl rfl (by omega) (cm rfl (Ch.nil ?_))))))
 exact Fin.fam_same (k + 1) ⟨⟨hk_k, allI_step hinv_k (by unfold ascAt; rw [hg, hgy]; simp_all)⟩, by omega⟩ ⟨⟨_, rfl, int_succ k⟩, ke rfl, ke rfl, trivial⟩
 iterate 10 refine cnt h2 rfl ?_
 refine co rfl (kpf rfl rfl h2 rfl) (Ch.nil (Fin.go (wk4 0 5 6 22 rfl (Tr.cond rfl (fun h => nomatch h) (fun _ => ?_)))))
 refine Tr.skip (Fin.block (Fin.go (Tr.reg0 (cad rfl rfl rfl rfl (by omega) (cm rfl (Ch.nil ?_))))))
 exact Fin.fam_same (k + 1) ⟨⟨hk_k, allI_step hinv_k (by unfold ascAt; rw [hg]; simp_all)⟩, by omega⟩ ⟨⟨_, rfl, int_succ k⟩, ke rfl, ke rfl, trivial⟩
 have he_k : k = (l).length := by have := ge_of_dec h1; omega
 subst he_k
 refine Tr.exit (Fin.then_exit (Fin.then_exit (Fin.block_here (Fin.go (Tr.seq (Tr.reg0 (cm rfl (Ch.nil (Fin.go (Tr.ret (Fin.ret1 rfl (OutW.bse _ _) rfl ?_)))))))))))
 · refine bool_eq ?_; unfold ascB; exact (allI_end hinv_k).symm
set_option maxRecDepth 20000 in
theorem w_hash {n : Int}  : Fun Tryz.prog 95 [int n] (bool (hashB n)) := by
 refine Fun.of Tryz.func95 rfl rfl (by exact Nat.le_of_ble_eq_true rfl) fun M0 w0 => ?_
 refine Tr.seq (Tr.reg0 (cm rfl (Ch.nil (Fin.go (Tr.seq (Tr.reg0 (cm rfl (co rfl (ok_call rfl (w_Kind) ⟨ke rfl, trivial⟩) (co rfl (ki rfl rfl rfl rfl) (cm rfl (Ch.nil (Fin.go (Tr.ret (Fin.ret1 rfl (OutW.bse _ _) rfl ?_))))))))))))))
 · exact Pr.le_refl _
theorem e_hash : Entry Tryz.prog 95 := ⟨_, Tryz.func95, rfl, rfl⟩
set_option maxRecDepth 20000 in
theorem w_suites {l : List Int}  : Fun Tryz.prog 88 [ints l] (bool (suitesB l)) := by
 refine Fun.of Tryz.func88 rfl rfl (by exact Nat.le_of_ble_eq_true rfl) fun M0 w0 => ?_
 refine Tr.lenm 0 rfl fun hlm_0 => (Tr.seq (Tr.reg0 (cm rfl (Ch.nil (Fin.go (Tr.seq (Tr.seq (Tr.reg0 (cm rfl (co rfl (ok_lenm rfl Tryz.underlying22 (vl rfl)) (cm rfl (Ch.nil (Fin.go (Tr.block ?_))))))))))))))
 refine Tr.loopw [(0, _), (7, _), (8, _)] (kk3 rfl) (fun k : Nat => [(9, int ((k : Nat) : Int))]) (fun k : Nat => k ≤ (l).length ∧ (∀ j, j < k → suiteAt l j = true)) (fun k : Nat => (l).length - k) 0 (⟨Nat.zero_le _, fun j hj => absurd hj (by omega)⟩) ⟨ke rfl, trivial⟩ ?_
 rintro k ⟨hle_k, hinv_k⟩
 refine Tr.seq (Tr.reg0 (co rfl (ki rfl rfl rfl rfl) (Ch.nil (Fin.go (Tr.seq ?_)))))
 refine Tr.cn rfl ?_ ?_ <;> intro h1 q1
 have hk_k : k < (l).length := lt_of_dec h1
 obtain ⟨x, hx_k⟩ := at_ hk_k
 have hg := getD_at (d := (0 : Int)) hx_k
 refine Tr.skip (Fin.go (Tr.seq (Tr.block (Tr.seq (Tr.reg0 (cm rfl (co rfl (ok_indexAddr rfl Tryz.underlying22 sz3 (vl rfl) (vl rfl) (by omega) (by exact row_at (by assumption))) ?_)))))))
 refine co rfl (kl1 rfl one3 rfl) (cm rfl (cm rfl (Ch.nil (Fin.go (Tr.seq (Tr.regT (tm rfl (tp rfl (ok_call rfl (w_Suite) ⟨ke rfl, trivial⟩) (tm rfl (tp rfl (ok_extract rfl (vl rfl) rfl) (tp rfl (ok_extract rfl (vl rfl) rfl) ?_)))))))))))
 refine TO.alloc rfl rfl (by decide) rfl z106 zo106 (fun b1 => ?_)
 refine TO.store_all 0 rfl rfl rfl (vl rfl) (VL.le (vl rfl) (agg_cellsP _)) rfl sz106 rfl rfl (TO.freeze 0 5 rfl rfl (tm rfl (TO.nil (Fin.go (wk7 0 3 4 6 7 8 9 rfl (Tr.seq (Tr.reg0 (cm rfl (co rfl (ki rfl rfl rfl rfl) (cm rfl ?_))))))))))
 refine Ch.cs 21 rfl ?_ ?_ <;> intro h2 q2
 have hnin : ¬ (1 ≤ x ∧ x ≤ 16) := by intro hh; rw [if_pos hh] at h2; exact absurd h2 (by decide)
 iterate 5 refine cnf h2 rfl ?_
 refine co rfl (kpt rfl rfl h2 rfl) (Ch.nil (Fin.go (wk5 0 7 8 9 27 rfl (Tr.cond rfl (fun _ => ?_) (fun h => nomatch h)))))
 refine Tr.seq (Tr.reg0 (cm rfl (Ch.nil (Fin.go (Tr.ret (Fin.block_ret (Fin.then_ret (Fin.then_ret (Fin.block_ret (Fin.then_ret (Fin.ret1 rfl (OutW.bse _ _) rfl ?_)))))))))))
 · refine bool_eq ?_; unfold suitesB; exact (allI_hit (p := suiteAt l) (k := k) (by omega) (by unfold suiteAt; rw [hg]; rw [decide_eq_false hnin]; rfl)).symm
 have hin : 1 ≤ x ∧ x ≤ 16 := by refine Decidable.byContradiction fun hh => ?_; rw [if_neg hh] at h2; exact absurd h2 (by decide)
 refine cym h2 rfl (cym h2 rfl ?_)
 refine cy h2 rfl (ok_sliceTo rfl Tryz.underlying22 sz3 (vl rfl) (vl rfl) (by omega) (by simp; omega)) ?_
 refine cym h2 rfl ?_
 refine cy h2 rfl (ok_call rfl (w_ContainsI (l := l.take k) (v := x)) ⟨⟨_, rfl, Pr.le_of_eq (by rw [← List.map_take, Int.toNat_natCast])⟩, ke rfl, trivial⟩) ?_
 refine co rfl (kpf rfl rfl h2 rfl) (Ch.nil (Fin.go (wk5 0 7 8 9 27 rfl ?_)))
 refine Tr.cn rfl ?_ ?_ <;> intro h3 q3
 refine Tr.seq (Tr.reg0 (cm rfl (Ch.nil (Fin.go (Tr.ret (Fin.block_ret (Fin.then_ret (Fin.then_ret (Fin.block_ret (Fin.then_ret (Fin.ret1 rfl (OutW.bse _ _) rfl ?_)))))))))))
 · refine bool_eq ?_; unfold suitesB; exact (allI_hit (p := suiteAt l) (k := k) (by omega) (by unfold suiteAt; rw [hg]; rw [decide_eq_true hin]; simp_all)).symm
 refine Tr.skip (Fin.block (Fin.go (Tr.reg0 (cad rfl rfl rfl rfl (by omega) (cm rfl (Ch.nil ?_))))))
 exact Fin.fam_same (k + 1) ⟨⟨hk_k, allI_step hinv_k (by unfold suiteAt; rw [hg]; rw [decide_eq_true hin]; simp_all)⟩, by omega⟩ ⟨⟨_, rfl, int_succ k⟩, ke rfl, ke rfl, ke rfl, trivial⟩
 have he_k : k = (l).length := by have := ge_of_dec h1; omega
 subst he_k
 refine Tr.exit (Fin.then_exit (Fin.then_exit (Fin.block_here (Fin.go (Tr.seq (Tr.reg0 (cm rfl (Ch.nil (Fin.go (Tr.ret (Fin.ret1 rfl (OutW.bse _ _) rfl ?_)))))))))))
 · refine bool_eq ?_; unfold suitesB; exact (allI_end hinv_k).symm
set_option maxRecDepth 20000 in
theorem w_EC11 {p : Int → Bool} {n : Int}  : Fun Tryz.prog 92 [int n, ref [clo Tryz.prog (fun x : Int => [int x]) (fun x => bool (p x))]] (bool (!p n)) := by
 refine Fun.of Tryz.func92 rfl rfl (by exact Nat.le_of_ble_eq_true rfl) fun M0 w0 => ?_
 refine Tr.seq (Tr.reg0 (cm rfl (Ch.nil (Fin.go (Tr.seq (Tr.reg0 (co rfl (kl1 rfl one71 rfl) (cm rfl (co rfl (ok_callc n rfl (vl rfl) ⟨ke rfl, trivial⟩) (co rfl (ok_not rfl (vl rfl)) (cm rfl (Ch.nil (Fin.go (Tr.ret ?_))))))))))))))
 refine Fin.ret1 rfl (OutW.bse _ _) rfl ?_
 · exact Pr.le_refl _
theorem e_EC11 : Entry Tryz.prog 92 := ⟨_, Tryz.func92, rfl, rfl⟩
set_option maxRecDepth 20000 in
theorem w_EC1 {p : Int → Bool}  : Fun Tryz.prog 91 [clo Tryz.prog (fun x : Int => [int x]) (fun x => bool (p x))] (clo Tryz.prog (fun x : Int => [int x]) (fun x => bool (!p x))) := by
 refine Fun.of Tryz.func91 rfl rfl (by exact Nat.le_of_ble_eq_true rfl) fun M0 w0 => ?_
 refine Tr.seq (Tr.reg0 (co rfl (ok_box rfl (VL.le (vl rfl) (one_cellsP _))) (cm rfl (Ch.nil (Fin.go (Tr.seq (Tr.reg0 (co rfl (ok_makeFunc rfl rfl) (cm rfl (Ch.nil (Fin.go (Tr.ret (Fin.ret1 rfl (OutW.bse _ _) rfl ?_)))))))))))))
 · exact fn_le_clo e_EC11 (fun x => w_EC11 (p := p) (n := x))
theorem e_EC1 : Entry Tryz.prog 91 := ⟨_, Tryz.func91, rfl, rfl⟩
set_option maxRecDepth 20000 in
set_option maxHeartbeats 1000000 in
theorem w_ECheck {e : Ept} (hf : e.fits) : Fun Tryz.prog 52 [agg (rowEp e)] (int (if eptB e then 0 else 19)) := by
 refine Fun.of Tryz.func52 rfl rfl (by exact Nat.le_of_ble_eq_true rfl) fun M0 w0 => ?_
 refine Tr.seq (Tr.reg0 (co rfl (ok_box rfl (VL.le (vl rfl) (agg_cellsP _))) (cm rfl (Ch.nil (Fin.go (Tr.seq (Tr.seq (Tr.reg0 (co rfl (kfa rfl fo35_0 rfl rfl) (co rfl (kl1 rfl one9 rfl) (co rfl (ok_call rfl (w_Word hf.name) ⟨ke rfl, trivial⟩) (co rfl (ok_not rfl (vl rfl)) (cm rfl ?_)))))))))))))
 refine Ch.cs 10 rfl ?_ ?_ <;> intro h1 q1
 refine cnf h1 rfl (cnf h1 rfl (cnf h1 rfl (co rfl (kpt rfl rfl h1 rfl) (cm rfl ?_))))
 iterate 5 refine cnd rfl rfl ?_
 refine co rfl (kpt rfl rfl rfl rfl) (cm rfl (cnd rfl rfl (cnd rfl rfl (cnd rfl rfl (co rfl (kpt rfl rfl rfl rfl) (cm rfl ?_))))))
 iterate 4 refine cnd rfl rfl ?_
 refine co rfl (kpt rfl rfl rfl rfl) (Ch.nil (Fin.go (wk2 1 32 rfl (Tr.cond rfl (fun _ => ?_) (fun h => nomatch h)))))
 refine Tr.seq (Tr.reg0 (cm rfl (Ch.nil (Fin.go (Tr.ret (Fin.then_ret (Fin.ret1 rfl (OutW.bse _ _) rfl ?_)))))))
 · refine int_eq ?_; unfold eptB; simp_all
 refine cy h1 rfl (kfa rfl fo35_1 rfl rfl) (cy h1 rfl (kl1 rfl one3 rfl) (cy h1 rfl (ki rfl rfl rfl rfl) (co rfl (kpf rfl rfl h1 rfl) (cm rfl ?_))))
 refine Ch.cs 15 rfl ?_ ?_ <;> intro h2 q2
 iterate 5 refine cnf h2 rfl ?_
 refine co rfl (kpt rfl rfl h2 rfl) (cm rfl (cnd rfl rfl (cnd rfl rfl (cnd rfl rfl (co rfl (kpt rfl rfl rfl rfl) (cm rfl ?_))))))
 iterate 4 refine cnd rfl rfl ?_
 refine co rfl (kpt rfl rfl rfl rfl) (Ch.nil (Fin.go (wk2 1 32 rfl (Tr.cond rfl (fun _ => ?_) (fun h => nomatch h)))))
 refine Tr.seq (Tr.reg0 (cm rfl (Ch.nil (Fin.go (Tr.ret (Fin.then_ret (Fin.ret1 rfl (OutW.bse _ _) rfl ?_)))))))
 · refine int_eq ?_; unfold eptB; simp_all; omega
 refine cy h2 rfl (kfa rfl fo35_1 rfl rfl) (cy h2 rfl (kl1 rfl one3 rfl) (cy h2 rfl (kfa rfl fo35_2 rfl rfl) (cy h2 rfl (kl1 rfl one3 rfl) (cy h2 rfl (ki rfl rfl rfl rfl) (co rfl (kpf rfl rfl h2 rfl) (cm rfl ?_))))))
 refine Ch.cs 22 rfl ?_ ?_ <;> intro h3 q3
 refine cnf h3 rfl (cnf h3 rfl (cnf h3 rfl (co rfl (kpt rfl rfl h3 rfl) (cm rfl ?_))))
 iterate 4 refine cnd rfl rfl ?_
 refine co rfl (kpt rfl rfl rfl rfl) (Ch.nil (Fin.go (wk2 1 32 rfl (Tr.cond rfl (fun _ => ?_) (fun h => nomatch h)))))
 refine Tr.seq (Tr.reg0 (cm rfl (Ch.nil (Fin.go (Tr.ret (Fin.then_ret (Fin.ret1 rfl (OutW.bse _ _) rfl ?_)))))))
 · refine int_eq ?_; unfold eptB; simp_all; omega
 refine cy h3 rfl (kfa rfl fo35_2 rfl rfl) (cy h3 rfl (kl1 rfl one3 rfl) (cy h3 rfl (ki rfl rfl rfl rfl) (co rfl (kpf rfl rfl h3 rfl) (cm rfl ?_))))
 refine Ch.cs 27 rfl ?_ ?_ <;> intro h4 q4
 iterate 4 refine cnf h4 rfl ?_
 refine co rfl (kpt rfl rfl h4 rfl) (Ch.nil (Fin.go (wk2 1 32 rfl (Tr.cond rfl (fun _ => ?_) (fun h => nomatch h)))))
 refine Tr.seq (Tr.reg0 (cm rfl (Ch.nil (Fin.go (Tr.ret (Fin.then_ret (Fin.ret1 rfl (OutW.bse _ _) rfl ?_)))))))
 · refine int_eq ?_; unfold eptB; simp_all; omega
 refine cy h4 rfl (kfa rfl fo35_3 rfl rfl) (cy h4 rfl (kl1 rfl one22 rfl) (cy h4 rfl (ok_call rfl (w_suites) ⟨ke rfl, trivial⟩) (cy h4 rfl (ok_not rfl (vl rfl)) (co rfl (kpf rfl rfl h4 rfl) (Ch.nil (Fin.go (wk2 1 32 rfl ?_)))))))
 refine Tr.cn rfl ?_ ?_ <;> intro h5 q5
 refine Tr.seq (Tr.reg0 (cm rfl (Ch.nil (Fin.go (Tr.ret (Fin.then_ret (Fin.ret1 rfl (OutW.bse _ _) rfl ?_)))))))
 · refine int_eq ?_; unfold eptB; simp_all
 refine Tr.skip (Fin.go (Tr.seq (Tr.seq (Tr.reg0 (co rfl (kfa rfl fo35_5 rfl rfl) (co rfl (kl1 rfl one33 rfl) (co rfl (ok_lenm rfl Tryz.underlying33 (vl rfl)) (co rfl (ki rfl rfl rfl rfl) (cm rfl ?_)))))))))
 refine Ch.cs 37 rfl ?_ ?_ <;> intro h6 q6
 iterate 4 refine cnf h6 rfl ?_
 refine co rfl (kpt rfl rfl h6 rfl) (cm rfl ?_)
 iterate 4 refine cnd rfl rfl ?_
 refine co rfl (kpt rfl rfl rfl rfl) (cm rfl ?_)
 iterate 4 refine cnd rfl rfl ?_
 refine co rfl (kpt rfl rfl rfl rfl) (Ch.nil (Fin.go (wk2 1 54 rfl (Tr.cond rfl (fun _ => ?_) (fun h => nomatch h)))))
 refine Tr.seq (Tr.reg0 (cm rfl (Ch.nil (Fin.go (Tr.ret (Fin.then_ret (Fin.ret1 rfl (OutW.bse _ _) rfl ?_)))))))
 · refine int_eq ?_; unfold eptB; simp_all; omega
 refine cy h6 rfl (kfa rfl fo35_6 rfl rfl) (cy h6 rfl (kl1 rfl one22 rfl) (cy h6 rfl (ok_lenm rfl Tryz.underlying22 (vl rfl)) (cy h6 rfl (ki rfl rfl rfl rfl) (co rfl (kpf rfl rfl h6 rfl) (cm rfl ?_)))))
 refine Ch.cs 43 rfl ?_ ?_ <;> intro h7 q7
 iterate 4 refine cnf h7 rfl ?_
 refine co rfl (kpt rfl rfl h7 rfl) (cm rfl ?_)
 iterate 4 refine cnd rfl rfl ?_
 refine co rfl (kpt rfl rfl rfl rfl) (Ch.nil (Fin.go (wk2 1 54 rfl (Tr.cond rfl (fun _ => ?_) (fun h => nomatch h)))))
 refine Tr.seq (Tr.reg0 (cm rfl (Ch.nil (Fin.go (Tr.ret (Fin.then_ret (Fin.ret1 rfl (OutW.bse _ _) rfl ?_)))))))
 · refine int_eq ?_; unfold eptB; simp_all; omega
 refine cy h7 rfl (kfa rfl fo35_6 rfl rfl) (cy h7 rfl (kl1 rfl one22 rfl) (cy h7 rfl (ok_call rfl (w_ascends) ⟨ke rfl, trivial⟩) (cy h7 rfl (ok_not rfl (vl rfl)) (co rfl (kpf rfl rfl h7 rfl) (cm rfl ?_)))))
 refine Ch.cs 49 rfl ?_ ?_ <;> intro h8 q8
 iterate 4 refine cnf h8 rfl ?_
 refine co rfl (kpt rfl rfl h8 rfl) (Ch.nil (Fin.go (wk2 1 54 rfl (Tr.cond rfl (fun _ => ?_) (fun h => nomatch h)))))
 refine Tr.seq (Tr.reg0 (cm rfl (Ch.nil (Fin.go (Tr.ret (Fin.then_ret (Fin.ret1 rfl (OutW.bse _ _) rfl ?_)))))))
 · refine int_eq ?_; unfold eptB; simp_all
 refine cy h8 rfl (kfa rfl fo35_7 rfl rfl) (cy h8 rfl (kl1 rfl one22 rfl) (cy h8 rfl (ok_call rfl (w_ascends) ⟨ke rfl, trivial⟩) (cy h8 rfl (ok_not rfl (vl rfl)) (co rfl (kpf rfl rfl h8 rfl) (Ch.nil (Fin.go (wk2 1 54 rfl ?_)))))))
 refine Tr.cn rfl ?_ ?_ <;> intro h9 q9
 refine Tr.seq (Tr.reg0 (cm rfl (Ch.nil (Fin.go (Tr.ret (Fin.then_ret (Fin.ret1 rfl (OutW.bse _ _) rfl ?_)))))))
 · refine int_eq ?_; unfold eptB; simp_all
 refine Tr.skip (Fin.go (Tr.seq (Tr.seq (Tr.reg0 (co rfl (kfa rfl fo35_5 rfl rfl) (co rfl (kl1 rfl one33 rfl) (co rfl (ok_lenm rfl Tryz.underlying33 (vl rfl)) (cm rfl (Ch.nil (Fin.go (Tr.block (Tr.loopw [(1, _), (56, _), (57, _)] (kk3 rfl) (fun k : Nat => [(58, int ((k : Nat) : Int))]) (fun k : Nat => k ≤ (e.ids).length ∧ (∀ j y, j < k → e.ids[j]? = some y → (!idB y) = false)) (fun k : Nat => (e.ids).length - k) 0 (⟨Nat.zero_le _, fun j y hj => absurd hj (by omega)⟩) ⟨ke rfl, trivial⟩ ?_))))))))))))
 rintro k ⟨hle_k, hinv_k⟩
 refine Tr.seq (Tr.reg0 (co rfl (ki rfl rfl rfl rfl) (Ch.nil (Fin.go (Tr.seq ?_)))))
 refine Tr.cn rfl ?_ ?_ <;> intro h10 q10
 have hk_k : k < (e.ids).length := lt_of_dec h10
 obtain ⟨x, hx_k⟩ := at_ hk_k
 have hxf := hf.ids x (List.mem_of_getElem? hx_k)
 refine Tr.skip (Fin.go (Tr.seq (Tr.block (Tr.seq (Tr.regT (tp rfl (ok_indexAddr rfl Tryz.underlying33 sz47 (vl rfl) (vl rfl) (by omega) (by exact row_at (by assumption))) ?_))))))
 refine tp rfl (ok_loadA rfl agg47 sz47 (vl rfl) rfl rfl) ?_
 refine TO.alloc rfl rfl (by decide) rfl z47 zo47 (fun b1 => ?_)
 refine TO.store_all 0 rfl rfl rfl (vl rfl) (VL.le (vl rfl) (agg_cellsP _)) rfl sz47 rfl rfl (TO.freeze 0 4 rfl rfl (TO.nil (Fin.go (Tr.seq (Tr.reg0 (co rfl (kfa rfl fo47_0 rfl rfl) (co rfl (ok_loadA rfl agg44 sz44 (vl rfl) rfl rfl) (co rfl (kfa rfl fo47_1 rfl rfl) (co rfl (kl1 rfl one3 rfl) (co rfl (kfa rfl fo47_2 rfl rfl) (co rfl (kl1 rfl one45 rfl) (co rfl (ok_call rfl (w_Shows hxf) ⟨ke rfl, ke rfl, ke rfl, trivial⟩) (co rfl (ok_not rfl (vl rfl)) ?_)))))))))))))
 refine Ch.nil (Fin.go (wk5 1 56 57 58 69 rfl ?_))
 refine Tr.cn rfl ?_ ?_ <;> intro h11 q11
 refine Tr.seq (Tr.reg0 (cm rfl (Ch.nil (Fin.go (Tr.ret (Fin.block_ret (Fin.then_ret (Fin.then_ret (Fin.block_ret (Fin.then_ret (Fin.ret1 rfl (OutW.bse _ _) rfl ?_)))))))))))
 · refine int_eq ?_; unfold eptB; rw [all_hit (p := idB) hx_k (by unfold idB; simp_all)]; simp
 refine Tr.skip (Fin.block (Fin.go (Tr.reg0 (cad rfl rfl rfl rfl (by omega) (cm rfl (Ch.nil ?_))))))
 exact Fin.fam_same (k + 1) ⟨⟨hk_k, step_no (p := fun c => !idB c) hx_k (by unfold idB; simp_all) hinv_k⟩, by omega⟩ ⟨⟨_, rfl, int_succ k⟩, ke rfl, ke rfl, ke rfl, trivial⟩
 have he_k : k = (e.ids).length := by have := ge_of_dec h10; omega
 subst he_k
 have hall := all_end hinv_k
 refine Tr.exit (Fin.then_exit (Fin.then_exit (Fin.block_here (Fin.go (Tr.seq (Tr.reg0 (cm rfl (Ch.nil (Fin.go (Tr.seq (Tr.seq (Tr.re 5 rfl (fn_le_clo (dom := fun p : Int → Bool => [clo Tryz.prog (fun x : Int => [int x]) (fun x => bool (p x))]) (res := fun p => clo Tryz.prog (fun x : Int => [int x]) (fun x => bool (!p x))) e_EC1 (fun p => w_EC1 (p := p))) ?_))))))))))))
 refine Tr.reg1 mixed (by kernel_rfl) (co rfl (kfa rfl fo35_6 rfl rfl) (co rfl (kl1 rfl one22 rfl) (cm rfl ?_)))
 refine co rfl (ok_callc keyB rfl (vl rfl) ⟨⟨_, rfl, fn_le_clo (dom := fun n : Int => [int n]) (res := fun n => bool (keyB n)) e_CKey (fun n => w_CKey (n := n))⟩, trivial⟩) ?_
 refine co rfl (ok_call rfl (w_ContainsFuncI (l := e.anchors) (p := fun n => !keyB n)) ⟨ke rfl, ke rfl, trivial⟩) ?_
 refine cm rfl ?_
 refine Ch.cs 76 rfl ?_ ?_ <;> intro h12 q12
 iterate 5 refine cnf h12 rfl ?_
 refine co rfl (kpt rfl rfl h12 rfl) (Ch.nil (Fin.go (wk1 82 rfl (Tr.cond rfl (fun _ => ?_) (fun h => nomatch h)))))
 refine Tr.seq (Tr.reg0 (cm rfl (Ch.nil (Fin.go (Tr.ret (Fin.then_ret (Fin.ret1 rfl (OutW.bse _ _) rfl ?_)))))))
 · refine int_eq ?_; unfold eptB; rw [if_neg]; intro hh; simp only [Bool.and_eq_true] at hh; have g1 := hh.1.2; have g2 := hh.2; clear hh hinv_k hf hall; simp only [any_not, g1, g2, Bool.not_true, Bool.false_eq_true] at *
 refine cy h12 rfl (kfa rfl fo35_7 rfl rfl) (cy h12 rfl (kl1 rfl one22 rfl) (cym h12 rfl ?_))
 refine cy h12 rfl (ok_callc hashB rfl (vl rfl) ⟨⟨_, rfl, fn_le_clo (dom := fun n : Int => [int n]) (res := fun n => bool (hashB n)) e_hash (fun n => w_hash (n := n))⟩, trivial⟩) ?_
 refine cy h12 rfl (ok_call rfl (w_ContainsFuncI (l := e.hashes) (p := fun n => !hashB n)) ⟨ke rfl, ke rfl, trivial⟩) ?_
 refine co rfl (kpf rfl rfl h12 rfl) (Ch.nil (Fin.go (wk1 82 rfl ?_)))
 refine Tr.cn rfl ?_ ?_ <;> intro h13 q13
 refine Tr.seq (Tr.reg0 (cm rfl (Ch.nil (Fin.go (Tr.ret (Fin.then_ret (Fin.ret1 rfl (OutW.bse _ _) rfl ?_)))))))
 · refine int_eq ?_; unfold eptB; rw [if_neg]; intro hh; simp only [Bool.and_eq_true] at hh; have g1 := hh.1.2; have g2 := hh.2; clear hh hinv_k hf hall; simp only [any_not, g1, g2, Bool.not_true, Bool.false_eq_true] at *
 refine Tr.skip (Fin.go (Tr.seq (Tr.reg0 (cm rfl (Ch.nil (Fin.go (Tr.ret (Fin.ret1 rfl (OutW.bse _ _) rfl ?_))))))))
 · refine int_eq ?_; unfold eptB; simp_all; omega
end Go.Proofs.YtflodcidhlmaaaaGreat
