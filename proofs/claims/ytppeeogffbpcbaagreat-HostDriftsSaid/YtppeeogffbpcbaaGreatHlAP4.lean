/-
  Part 4 of the texts that prove this claim, merged.
-/
import Derived.Test.YtppeeogffbpcbaaGreatHlAP3
set_option linter.all false
set_option maxRecDepth 40000
set_option maxHeartbeats 16000000
namespace Go.Proofs.YtppeeogffbpcbaaGreat
open Go Go.RowKit Cp Go.Proofs.Tryz
def AdjF (l : List Fnd) : Prop := ∀ (j : Nat) a b, l[j]? = some a → l[j + 1]? = some b → ordF a b < 0
/-- Where a finding belongs, seen from the end. -/
def kF (l : List Fnd) (f : Fnd) : Nat := (l.reverse.dropWhile fun x => decide (0 < ordF x f)).length
def putF (l : List Fnd) (f : Fnd) : List Fnd := if 0 < kF l f ∧ ((l[kF l f - 1]?).map fun x => ordF x f) = some 0 then l else l.take (kF l f) ++ [f] ++ l.drop (kF l f)
theorem kF_le (l : List Fnd) (f : Fnd) : kF l f ≤ l.length := by
 unfold kF
 have := (List.dropWhile_sublist (l := l.reverse) (fun x => decide (0 < ordF x f))).length_le
 simpa using this
theorem cmpI_swap (a b : Int) : cmpI b a = - cmpI a b := by unfold cmpI; by_cases h1 : a < b <;> by_cases h2 : b < a <;> simp [h1, h2] <;> omega
theorem orL_neg : ∀ l : List Int, orL (l.map fun x => -x) = - orL l
 | [] => rfl
 | a :: l => by
  have ih := orL_neg l
  show (if -a = 0 then orL (l.map fun x => -x) else -a) = - (if a = 0 then orL l else a)
  by_cases h : a = 0
  · rw [if_pos (by omega), if_pos h, ih]
  · rw [if_neg (by omega), if_neg h]
theorem ordF_swap (a b : Fnd) : ordF b a = - ordF a b := by
 unfold ordF
 rw [← orL_neg]
 unfold keysF
 simp only [List.map_cons, List.map_nil]
 rw [cmp_swap a.host b.host, cmp_swap a.subj b.subj, cmp_swap a.text b.text, cmpI_swap a.machine, cmpI_swap a.day, cmpI_swap a.kind, cmpI_swap a.alg, cmpI_swap a.bits, cmpI_swap a.num, cmpI_swap a.src, cmpI_swap a.conf]
theorem dropWhile_spec {β : Type} {p : β → Bool} : ∀ (l : List β), ∃ m, l = m ++ l.dropWhile p ∧ (∀ x ∈ m, p x = true) ∧ ∀ y r, l.dropWhile p = y :: r → p y = false
 | [] => ⟨[], rfl, by simp, fun y r h => by cases h⟩
 | a :: l => by
  by_cases h : p a = true
  ·
   obtain ⟨m, h1, h2, h3⟩ := dropWhile_spec (p := p) l
   refine ⟨a :: m, ?_, ?_, ?_⟩
   · rw [List.dropWhile_cons_of_pos h, List.cons_append, ← h1]
   ·
    intro x hx
    rcases List.mem_cons.1 hx with rfl | hx
    · exact h
    · exact h2 x hx
   · intro y r hy; rw [List.dropWhile_cons_of_pos h] at hy; exact h3 y r hy
  ·
   refine ⟨[], ?_, by simp, ?_⟩
   · rw [List.dropWhile_cons_of_neg h]; rfl
   · intro y r hy; rw [List.dropWhile_cons_of_neg h] at hy; injection hy with h1 _; subst h1; simpa using h
theorem kF_spec (l : List Fnd) (f : Fnd) : (∀ y, l[kF l f]? = some y → 0 < ordF y f) ∧ (∀ x, 0 < kF l f → l[kF l f - 1]? = some x → ordF x f ≤ 0) := by
 obtain ⟨m, h1, h2, h3⟩ := dropWhile_spec (p := fun x => decide (0 < ordF x f)) l.reverse
 have hk : kF l f = (l.reverse.dropWhile fun x => decide (0 < ordF x f)).length := rfl
 generalize l.reverse.dropWhile (fun x => decide (0 < ordF x f)) = d at *
 have hl : l = d.reverse ++ m.reverse := by rw [← List.reverse_append, ← h1, List.reverse_reverse]
 refine ⟨fun y hy => ?_, fun x h0 hx => ?_⟩
 ·
  rw [hk, hl, List.getElem?_append_right (by simp)] at hy
  have := h2 y (by have := List.mem_of_getElem? hy; simpa using this)
  simpa using this
 ·
  cases d with
  | nil => rw [hk] at h0; cases h0
  | cons y r =>
   have hx2 : x = y := by
    rw [hk, hl, List.getElem?_append_left (by simp)] at hx
    rw [List.reverse_cons, List.getElem?_append_right (by simp)] at hx
    simpa using hx.symm
   have := h3 y r rfl
   rw [hx2]; simpa using this
theorem put_adj {l : List Fnd} (f : Fnd) (h : AdjF l) : AdjF (putF l f) := by
 obtain ⟨h1, h2⟩ := kF_spec l f
 have hk := kF_le l f
 unfold putF
 split
 · exact h
 ·
  rename_i hn
  generalize kF l f = k at *
  have hlen : (l.take k).length = k := by rw [List.length_take]; omega
  intro j a b ha hb
  rw [List.append_assoc] at ha hb
  rcases Nat.lt_trichotomy (j + 1) k with hj | hj | hj
  ·
   rw [List.getElem?_append_left (by omega), List.getElem?_take, if_pos (by omega)] at ha
   rw [List.getElem?_append_left (by omega), List.getElem?_take, if_pos (by omega)] at hb
   exact h j a b ha hb
  ·
   rw [List.getElem?_append_left (by omega), List.getElem?_take, if_pos (by omega)] at ha
   rw [List.getElem?_append_right (by omega), hlen, show j + 1 - k = 0 by omega] at hb
   simp at hb; subst hb
   have ha' : l[k - 1]? = some a := by rw [show k - 1 = j by omega]; exact ha
   have h3 := h2 a (by omega) ha'
   rcases Int.lt_or_eq_of_le h3 with h4 | h4
   · exact h4
   · exact absurd ⟨by omega, by rw [ha']; simp [h4]⟩ hn
  ·
   rcases Nat.eq_or_lt_of_le (Nat.le_of_lt_succ hj) with hj2 | hj2
   ·
    rw [List.getElem?_append_right (by omega), hlen, show j - k = 0 by omega] at ha
    simp at ha; subst ha
    rw [List.getElem?_append_right (by omega), hlen, show j + 1 - k = 1 by omega] at hb
    simp at hb
    have := h1 b (by simpa using hb)
    rw [ordF_swap b f]; omega
   ·
    rw [List.getElem?_append_right (by omega), hlen, show j - k = (j - k - 1) + 1 by omega] at ha
    rw [List.getElem?_append_right (by omega), hlen, show j + 1 - k = (j - k) + 1 by omega] at hb
    simp at ha hb
    exact h (j - 1) a b (by rw [show j - 1 = k + (j - k - 1) by omega]; exact ha) (by rw [show j - 1 + 1 = k + (j - k) by omega]; exact hb)
theorem put_mem {l : List Fnd} {f x : Fnd} (h : x ∈ putF l f) : x ∈ l ∨ x = f := by
 unfold putF at h
 split at h
 · exact .inl h
 ·
  simp only [List.mem_append, List.mem_singleton] at h
  rcases h with (h | h) | h
  · exact .inl (List.mem_of_mem_take h)
  · exact .inr h
  · exact .inl (List.mem_of_mem_drop h)
theorem fold_adj : ∀ (l acc : List Fnd), AdjF acc → AdjF (l.foldl putF acc)
 | [], _, h => h
 | f :: l, acc, h => fold_adj l _ (put_adj f h)
theorem w_lessI {a b : Int}  : Fun prog 291 [int a, int b] (bool (decide (a < b))) := by
 refine fo func291 rfl ⟨rfl, rfl⟩ fun M0 w0 => ?_
 · repeat' first | exact absurd h (by decide) | exact Lr | refine co rfl (kc1 (w_isNaNI) rfl rfl) (cm rfl ?_) | refine ac ?_ | (refine Ch.cg rfl rfl rfl ?_ ?_ <;> intro h q)
theorem tab_len {l : List UInt8} {x : Nat} {y : Int} {hl : x < l.length} (h : (List.range 256).all (fun i => match l[i]? with | some b => decide (b.toNat ≤ 8 ∧ (1 ≤ i → 2 ^ b.toNat ≤ 2 * i)) | none => true) = true) (hx : x < 256) (hy : (x : Int) = y) :
  0 ≤ IntKind.i64.wrap (IntKind.i64.wrap ((l[x]).toNat : Int)) ∧ IntKind.i64.wrap (IntKind.i64.wrap ((l[x]).toNat : Int)) ≤ 8 ∧ (1 ≤ y → ((2 ^ (IntKind.i64.wrap (IntKind.i64.wrap ((l[x]).toNat : Int))).toNat : Nat) : Int) ≤ 2 * y) := by
 subst hy
 have h1 := List.all_eq_true.1 h x (List.mem_range.2 hx)
 rw [List.getElem?_eq_getElem hl] at h1
 have h1 := of_decide_eq_true h1
 have hb : (l[x]).toNat < 256 := UInt8.toNat_lt _
 have hw := IntWalk.i64_in ((l[x]).toNat : Int) ⟨by omega, by omega⟩
 rw [hw, hw, Int.toNat_natCast]
 exact ⟨by omega, by omega, fun hx1 => by have := h1.2 (by omega); omega⟩

theorem w_Len64x {x : Int} (h0 : 0 ≤ x) (h1 : x < 256) : Fun prog 279 [is (.int .u64 x)] (ex fun k : Int => fact (0 ≤ k ∧ k ≤ 8 ∧ (1 ≤ x → ((2 ^ k.toNat : Nat) : Int) ≤ 2 * x)) (int k)) := by
 refine fo func279 rfl ⟨rfl, rfl⟩ fun M0 w0 => ?_
 have hw : IntKind.u8.wrap x = x := IntWalk.u8_in x ⟨by omega, by omega⟩
 refine ac ?_
 refine an ?_ ?_ <;> intro h1 q1
 exfalso; omega
 refine ac ?_
 refine an ?_ ?_ <;> intro h2 q2
 exfalso; omega
 refine ac ?_
 refine an ?_ ?_ <;> intro h3 q3
 exfalso; omega
 refine a2 ?_
 refine co rfl (ok_conv rfl underlying285 underlying5 (vl rfl)) ?_
 refine co rfl (ok_sidx rfl underlying9 (vl rfl) (vl rfl) (by omega) (List.getElem?_eq_getElem (by show _ < 256; omega))) ?_
 refine co rfl (ok_conv rfl underlying5 underlying3 (vl rfl)) ?_
 refine ac ?_
 refine wk1 2 rfl ?_
 refine ac ?_
 · refine ex_in _ (fact_in ?_ (Lr)); rw [Int.zero_add]; refine tab_len ?_ (by omega) (by omega); decide +kernel
theorem w_BLenx {x : Int} (h0 : 0 ≤ x) (h1 : x < 256) : Fun prog 228 [is (.int .u64 x)] (ex fun k : Int => fact (0 ≤ k ∧ k ≤ 8 ∧ (1 ≤ x → ((2 ^ k.toNat : Nat) : Int) ≤ 2 * x)) (int k)) := by
 refine fo func228 rfl ⟨rfl, rfl⟩ fun M0 w0 => ?_
 refine a3 ?_
 refine co rfl (kc1 (w_Len64x (by omega) (by omega)) rfl rfl) ?_
 refine a2 ?_
 · exact Lr
theorem w_npow {x : Int} (h0 : 1 ≤ x) (h1 : x < 256) : Fun prog 295 [int x] (ex fun m : Int => fact (1 ≤ m ∧ m ≤ 2 * x) (is (.int .u64 m))) := by
 refine fo func295 rfl ⟨rfl, rfl⟩ fun M0 w0 => ?_
 have hw : IntKind.u64.wrap x = x := IntWalk.u64_in x ⟨by omega, by omega⟩
 refine ac ?_
 refine ap ?_
 refine tp rfl (ok_conv rfl underlying3 underlying251 (vl rfl)) (tp rfl (kc1 (w_BLenx (by omega) (by omega)) rfl rfl) ?_)
 refine TO.ex 5 rfl (fun k => TO.fact 5 rfl fun hk => ?_)
 obtain ⟨hk1, hk2, hk3⟩ := hk
 refine tp rfl (ok_shl1 rfl (vl rfl) (vl rfl) (by omega) (by omega) (hk3 (by omega))) ?_
 refine ap ?_
 refine ac ?_
 · exact fun M w v ⟨r, h, hv⟩ => ⟨r, by rw [hw] at h; exact h, hv⟩
theorem w_xnext {xb : Nat}  : FunM prog 296 [is (.pointer (some ⟨xb, 0, none⟩))] (anyK .u64) (cellsRes true xb 294 [anyK .u64]) (fun _ => cellsRes true xb 294 [anyK .u64]) := by
 refine FunM.of func296 rfl rfl (by exact Nb rfl) fun M0 w0 S rs M1 w1 => ?_
 refine ac ?_
 refine Tr.seq (Tr.rx ?_)
 refine ay ?_
 refine xo rfl (fun _ => ok_shK (by decide) rfl (vl rfl) (vl rfl) (by decide)) (xo rfl (fun _ => ok_bits (by decide) rfl (vl rfl) (vl rfl)) ?_)
 refine ay ?_
 refine Cx.nil ⟨by kernel_rfl, ?_⟩
 refine FinX.done al2 (Fin.go (Tr.seq (Tr.rx ?_)))
 refine ay ?_
 refine xo rfl (fun _ => ok_shK (by decide) rfl (vl rfl) (vl rfl) (by decide)) (xo rfl (fun _ => ok_bits (by decide) rfl (vl rfl) (vl rfl)) ?_)
 refine ay ?_
 refine Cx.nil ⟨by kernel_rfl, ?_⟩
 refine FinX.done al2 (Fin.go (wk1 0 rfl (Tr.seq (Tr.rx ?_))))
 refine ay ?_
 refine xo rfl (fun _ => ok_shK (by decide) rfl (vl rfl) (vl rfl) (by decide)) (xo rfl (fun _ => ok_bits (by decide) rfl (vl rfl) (vl rfl)) ?_)
 refine ay ?_
 refine Cx.nil ⟨by kernel_rfl, ?_⟩
 refine FinX.done al2 (Fin.go ?_)
 refine ac ?_
 refine wk1 2 rfl (Tr.ret (Fin.retM1 rfl rfl ?_ (fun _ _ _ _ => rfl)))
 · exact Lr
instance : Inhabited Fnd := ⟨⟨0, [], 0, 0, 0, 0, [], 0, 0, 0, []⟩⟩
theorem w_sinsG {l : List Fnd} {c : Fnd × Fnd → Int} {b0 cap len : Nat} {sp : List Value} {a b : Int} (hln : l.length = len) (hll : len ≤ 1000000) (hw : Go.Sort.SWO (ltc c)) (h0 : 0 ≤ a) (hab : a ≤ b) (hb : b ≤ len) : FunM prog 270 [is (.slice (some ⟨b0, 0, none⟩) len cap), int a, int b, clo prog (fun x : Fnd × Fnd => [agg (rowF x.1), agg (rowF x.2)]) (fun x => int (c x))] (unit_) (cellsRes true b0 96 ((l.map rowF).flatten ++ sp.map is)) (fun _ => relRes b0 96 rowF (SortL c a b l) (sp.map is)) := by
 refine FunM.of func270 rfl rfl (by exact Nb rfl) fun M0 w0 S rs M1 w1 => ?_
 refine ac ?_
 refine Tr.block (Tr.loopD2V0 [(0, _), (1, _), (2, _), (3, _)] ⟨ke rfl, ke rfl, ke rfl, ke rfl, trivial⟩ (fun (i : Int) (st : List Fnd) => [(8, int i)]) (fun (i : Int) (st : List Fnd) => Hp M0 w0 S (cellsRes true b0 96 ((st.map rowF).flatten ++ sp.map is) :: extRes M1 w1 :: rs)) (fun (i : Int) (st : List Fnd) => a < i ∧ st.length = len ∧ Go.Sort.insOuter (ltc c) a.toNat b.toNat i.toNat st.toArray = Go.Sort.insertionSort (ltc c) l.toArray a.toNat b.toNat) (fun (i : Int) (st : List Fnd) => (b - i).toNat) (a + 1) (l)  (⟨by omega, by omega, inso_start h0⟩) ⟨ke rfl, trivial⟩ (fun _ _ h => h) ?_)
 rintro i st  ⟨hi1, hsl, hso⟩
 refine an ?_ ?_ <;> intro h1 q1
 have hib : i < b := of_decide_eq_true h1
 refine a2 ?_
 refine Tr.block (Tr.loopD2V0 [(0, _), (1, _), (2, _), (3, _), (8, _)] ⟨ke rfl, ke rfl, ke rfl, ke rfl, ke rfl, trivial⟩ (fun (j : Int) (st2 : List Fnd) => [(9, int j)]) (fun (j : Int) (st2 : List Fnd) => Hp M0 w0 S (cellsRes true b0 96 ((st2.map rowF).flatten ++ sp.map is) :: extRes M1 w1 :: rs)) (fun (j : Int) (st2 : List Fnd) => (a ≤ j ∧ j ≤ i) ∧ st2.length = len ∧ Go.Sort.insInner (ltc c) a.toNat j.toNat st2.toArray = Go.Sort.insInner (ltc c) a.toNat i.toNat st.toArray) (fun (j : Int) (st2 : List Fnd) => (j - a).toNat) (i) (st)  (⟨⟨by omega, by omega⟩, hsl, rfl⟩) ⟨ke rfl, trivial⟩ (fun _ _ h => h) ?_)
 rintro j st2  ⟨⟨hj1, hj2⟩, hsl2, hso2⟩
 refine ag ?_ ?_ <;> intro h2 q2
 refine ac ?_
 refine cy h2 rfl (okp_indexSl rfl underlying92 sz96 (vl rfl) (vl rfl) (by omega) (by omega)) (cy h2 rfl (ok_rd 0 rfl (rd_loadA rfl agg96 sz96 (vl rfl) (cells_atG (f := rowF) (fun _ => rfl) (by omega)) rfl)) ?_)
 refine ac ?_
 refine cy h2 rfl (okp_indexSl rfl underlying92 sz96 (vl rfl) (vl rfl) (by omega) (by omega)) (cy h2 rfl (ok_rd 0 rfl (rd_loadA rfl agg96 sz96 (vl rfl) (cells_atG (f := rowF) (fun _ => rfl) (by omega)) rfl)) (cy h2 rfl (ok_callc (_, _) rfl (vl rfl) ⟨ke rfl, ke rfl, trivial⟩) ?_))
 refine ac ?_
 refine wk7 0 1 2 3 8 9 34 rfl ?_
 refine Tr.cn rfl ?_ ?_ <;> intro h3 q3
 have := h3
 refine ac ?_
 refine Tr.seq (Tr.block (Tr.rx ?_))
 refine ay ?_
 refine xo rfl (fun _ => okp_indexSl rfl underlying92 sz96 (vl rfl) (vl rfl) (by omega) (by omega)) (xrd 0 rfl rfl (rd_loadA rfl agg96 sz96 (vl rfl) (cells_atG (f := rowF) (fun _ => rfl) (by omega)) rfl) ?_)
 refine ay ?_
 refine xo rfl (fun _ => okp_indexSl rfl underlying92 sz96 (vl rfl) (vl rfl) (by omega) (by omega)) (xrd 0 rfl rfl (rd_loadA rfl agg96 sz96 (vl rfl) (cells_atG (f := rowF) (fun _ => rfl) (by omega)) rfl) (xo rfl (fun _ => okp_indexSl rfl underlying92 sz96 (vl rfl) (vl rfl) (by omega) (by omega)) ?_))
 refine Cx.ef0 0 rfl rfl (ef_store rfl rfl (vl rfl) (Va rfl) sz96 rfl (by rw [cells_len (sz := 11) (fun _ => rfl)]; omega) (cells_setG (f := rowF) (fun _ => rfl) (by omega))) ?_
 refine xo rfl (fun _ => okp_indexSl rfl underlying92 sz96 (vl rfl) (vl rfl) (by omega) (by omega)) ?_
 refine Cx.ef0 0 rfl rfl (ef_store rfl rfl (vl rfl) (Va rfl) sz96 rfl (by rw [cells_len (sz := 11) (fun _ => rfl)]; simp only [List.length_set]; omega) (cells_setG (f := rowF) (fun _ => rfl) (by simp only [List.length_set]; omega))) ?_
 refine Cx.nil ⟨by kernel_rfl, ?_⟩
 refine FinX.done al2 ?_
 refine ac ?_
 refine wk6 0 1 2 3 8 9 rfl ?_
 refine ac ?_
 exact Fin.famD2V0 (j - 1) (_)  (⟨⟨⟨by omega, by omega⟩, by simp only [List.length_set]; exact hsl2, by rw [ins_go h0 (by omega) rfl (by omega) (by omega) (by assumption)]; exact hso2⟩, by omega⟩) ⟨ke rfl, ke rfl, ke rfl, ke rfl, ke rfl, ke rfl, trivial⟩ (fun _ _ h => h)
 have := h3
 refine a2 ?_
 have hfin : st2.toArray = Go.Sort.insInner (ltc c) a.toNat j.toNat st2.toArray := by exact ins_stopB h0 (by omega) rfl (by omega) (by omega) (Int.not_lt.2 (by assumption))
 exact Fin.famD2V0 (i + 1) (st2)  (⟨⟨by omega, hsl2, by rw [← hso, ← inso_go (by omega) hib, ← hso2]; exact congrArg _ hfin⟩, by omega⟩) ⟨ke rfl, ke rfl, ke rfl, ke rfl, ke rfl, trivial⟩ (fun _ _ h => h)
 refine ac ?_
 refine wk7 0 1 2 3 8 9 34 rfl ?_
 refine a2 ?_
 have hfin : st2.toArray = Go.Sort.insInner (ltc c) a.toNat j.toNat st2.toArray := by exact ins_stopA h0 (by omega)
 exact Fin.famD2V0 (i + 1) (st2)  (⟨⟨by omega, hsl2, by rw [← hso, ← inso_go (by omega) hib, ← hso2]; exact congrArg _ hfin⟩, by omega⟩) ⟨ke rfl, ke rfl, ke rfl, ke rfl, ke rfl, trivial⟩ (fun _ _ h => h)
 have hib : ¬ i < b := of_decide_eq_false h1
 rw [inso_stop (by omega) hib] at hso
 refine Tr.exit (Fin.then_exit (Fin.then_exit (Fin.block_here ?_)))
 refine Fin.closeL (SortL c a b l) 0 rfl (by unfold SortL; rw [hso]; exact Go.Sort.insertionSort_holds hw l.toArray a.toNat b.toNat (by omega) (by simp only [List.size_toArray]; omega)) ?_
 exact Fin.retM0 rfl
theorem w_ssiftG {l : List Fnd} {c : Fnd × Fnd → Int} {b0 cap len : Nat} {sp : List Value} {lo hi first : Int} (hln : l.length = len) (hll : len ≤ 1000000) (h0 : 0 ≤ lo) (hlo : lo ≤ len) (hf : 0 ≤ first) (hb : first + hi ≤ len) : FunM prog 294 [is (.slice (some ⟨b0, 0, none⟩) len cap), int lo, int hi, int first, clo prog (fun x : Fnd × Fnd => [agg (rowF x.1), agg (rowF x.2)]) (fun x => int (c x))] (unit_) (cellsRes true b0 96 ((l.map rowF).flatten ++ sp.map is)) (fun _ => relRes b0 96 rowF (SiftL c hi first lo l) (sp.map is)) := by
 refine FunM.of func294 rfl rfl (by exact Nb rfl) fun M0 w0 S rs M1 w1 => ?_
 refine Tr.seq (Tr.reg0 (cm rfl (cm rfl (Ch.nil (Fin.go (Tr.block (Tr.loopD2V0 [(0, _), (2, _), (3, _), (4, _)] ⟨ke rfl, ke rfl, ke rfl, ke rfl, trivial⟩ (fun (r : Int) (st : List Fnd) => [(10, int r)]) (fun (r : Int) (st : List Fnd) => Hp M0 w0 S (cellsRes true b0 96 ((st.map rowF).flatten ++ sp.map is) :: extRes M1 w1 :: rs)) (fun (r : Int) (st : List Fnd) => (0 ≤ r ∧ r ≤ 1000000) ∧ st.length = len ∧ Go.Sort.siftDown (ltc c) hi.toNat first.toNat r.toNat st.toArray = Go.Sort.siftDown (ltc c) hi.toNat first.toNat lo.toNat l.toArray) (fun (r : Int) (st : List Fnd) => (hi - r).toNat) (lo) (l)  (⟨⟨by omega, by omega⟩, by omega, rfl⟩) ⟨ke rfl, trivial⟩ (fun _ _ h => h) ?_)))))))
 rintro r st  ⟨⟨h0r, hr2⟩, hsl, hso⟩
 refine Tr.block (Tr.seq (Tr.reg0 (cm rfl ?_)))
 refine co rfl (ok_mul rfl (vl rfl) (vl rfl) ?hin) ?_; case hin => unfold InI; omega
 refine cad rfl rfl rfl rfl (by omega) (cm rfl (Ch.nil (Fin.go (Tr.seq (Tr.seq (Tr.reg0 (cm rfl (cm rfl (co rfl (ki rfl rfl rfl rfl) (Ch.nil (Fin.go ?_)))))))))))
 refine Tr.cn rfl ?_ ?_ <;> intro h1 q1
 refine Tr.exit (Fin.then_exit (Fin.block_on rfl (Fin.then_exit (Fin.block_here ?_))))
 refine Fin.closeL (SiftL c hi first lo l) 0 rfl (⟨by omega, by rw [← hso]; exact sift_end (by omega) (by omega)⟩) ?_
 exact Fin.retM0 rfl
 refine Tr.skip (Fin.go (Tr.seq (Tr.seq (Tr.reg1 mixed (by kernel_rfl) (cm rfl (cad rfl rfl rfl rfl (by omega) (cm rfl (co rfl (ki rfl rfl rfl rfl) (cm rfl ?_)))))))))
 refine Ch.cs 23 rfl ?_ ?_ <;> intro h2 q2
 iterate 4 refine cym h2 rfl ?_
 refine cy h2 rfl (ok_add rfl (vl rfl) (vl rfl) ?hin) ?_; case hin => unfold InI; omega
 refine cy h2 rfl (okp_indexSl rfl underlying92 sz96 (vl rfl) (vl rfl) (by omega) (by omega)) (cy h2 rfl (ok_rd 0 rfl (rd_loadA rfl agg96 sz96 (vl rfl) (cells_atG (f := rowF) (fun _ => rfl) (by omega)) rfl)) (cym h2 rfl (cym h2 rfl (cym h2 rfl ?_))))
 refine cy h2 rfl (ok_add rfl (vl rfl) (vl rfl) ?hin) ?_; case hin => unfold InI; omega
 refine cy h2 rfl (ok_add rfl (vl rfl) (vl rfl) ?hin) ?_; case hin => unfold InI; omega
 refine cy h2 rfl (okp_indexSl rfl underlying92 sz96 (vl rfl) (vl rfl) (by omega) (by omega)) (cy h2 rfl (ok_rd 0 rfl (rd_loadA rfl agg96 sz96 (vl rfl) (cells_atG (f := rowF) (fun _ => rfl) (by omega)) rfl)) (cy h2 rfl (ok_callc (_, _) rfl (vl rfl) ⟨ke rfl, ke rfl, trivial⟩) (cy h2 rfl (ki rfl rfl rfl rfl) (co rfl (kpt rfl rfl h2 rfl) (Ch.nil (Fin.go (wk7 0 2 3 4 10 11 40 rfl ?_)))))))
 refine Tr.cn rfl ?_ ?_ <;> intro h3 q3
 refine Tr.reg0 (cm rfl (cad rfl rfl rfl rfl (by omega) (cm rfl (Ch.nil (Fin.go (Tr.seq (Tr.seq (Tr.reg1 mixed (by kernel_rfl) ?_))))))))
 iterate 4 refine cm rfl ?_
 refine cad rfl rfl rfl rfl (by omega) (co rfl (okp_indexSl rfl underlying92 sz96 (vl rfl) (vl rfl) (by omega) (by omega)) (co rfl (ok_rd 0 rfl (rd_loadA rfl agg96 sz96 (vl rfl) (cells_atG (f := rowF) (fun _ => rfl) (by omega)) rfl)) (cm rfl (cm rfl (cm rfl (cad rfl rfl rfl rfl (by omega) (co rfl (okp_indexSl rfl underlying92 sz96 (vl rfl) (vl rfl) (by omega) (by omega)) (co rfl (ok_rd 0 rfl (rd_loadA rfl agg96 sz96 (vl rfl) (cells_atG (f := rowF) (fun _ => rfl) (by omega)) rfl)) (co rfl (ok_callc (_, _) rfl (vl rfl) ⟨ke rfl, ke rfl, trivial⟩) (co rfl (ki rfl rfl rfl rfl) (co rfl (ok_not rfl (vl rfl)) (Ch.nil (Fin.go ?_)))))))))))))
 refine wk7 0 2 3 4 10 11 58 rfl ?_
 refine Tr.cn rfl ?_ ?_ <;> intro h4 q4
 refine Tr.ret (Fin.then_ret (Fin.block_ret (Fin.then_ret (Fin.block_ret ?_))))
 refine Fin.closeL (SiftL c hi first lo l) 0 rfl (⟨by omega, by rw [← hso]; exact sift_stopR h0r hf (by omega) (u := first + (2 * r + 1)) (v := first + (2 * r + 1) + 1) rfl rfl (by omega) (by omega) (by assumption) (x := first + r) (y := first + (2 * r + 1 + 1)) rfl rfl (by omega) (by omega) (Int.not_lt.2 (by assumption))⟩) ?_
 exact Fin.retM0r rfl
 refine Tr.skip (Fin.go (Tr.seq (Tr.regX mixed [none, none, none, none, none, none, none, none, none, none, none, none, none, some (0, 0, false, 0), none, none, none, none, none, some (0, 0, false, 0), none, some (0, 0, true, 0), none, some (0, 0, true, 0)] (by kernel_rfl) (xm rfl (xm rfl (xm rfl ?_))))))
 refine xo rfl (fun _ => ok_add rfl (vl rfl) (vl rfl) ?hin) ?_; case hin => unfold InI; omega
 refine xm rfl (xm rfl (xm rfl ?_))
 refine xo rfl (fun _ => ok_add rfl (vl rfl) (vl rfl) ?hin) ?_; case hin => unfold InI; omega
 refine xm rfl (xm rfl (xm rfl ?_))
 refine xo rfl (fun _ => ok_add rfl (vl rfl) (vl rfl) ?hin) ?_; case hin => unfold InI; omega
 refine xo rfl (fun _ => okp_indexSl rfl underlying92 sz96 (vl rfl) (vl rfl) (by omega) (by omega)) (xrd 0 rfl rfl (rd_loadA rfl agg96 sz96 (vl rfl) (cells_atG (f := rowF) (fun _ => rfl) (by omega)) rfl) (xm rfl (xm rfl (xm rfl ?_))))
 refine xo rfl (fun _ => ok_add rfl (vl rfl) (vl rfl) ?hin) ?_; case hin => unfold InI; omega
 refine xo rfl (fun _ => okp_indexSl rfl underlying92 sz96 (vl rfl) (vl rfl) (by omega) (by omega)) (xrd 0 rfl rfl (rd_loadA rfl agg96 sz96 (vl rfl) (cells_atG (f := rowF) (fun _ => rfl) (by omega)) rfl) (xo rfl (fun _ => okp_indexSl rfl underlying92 sz96 (vl rfl) (vl rfl) (by omega) (by omega)) ?_))
 refine Cx.ef0 0 rfl rfl (ef_store rfl rfl (vl rfl) (Va rfl) sz96 rfl (by rw [cells_len (sz := 11) (fun _ => rfl)]; omega) (cells_setG (f := rowF) (fun _ => rfl) (by omega))) ?_
 refine xo rfl (fun _ => okp_indexSl rfl underlying92 sz96 (vl rfl) (vl rfl) (by omega) (by omega)) ?_
 refine Cx.ef0 0 rfl rfl (ef_store rfl rfl (vl rfl) (Va rfl) sz96 rfl (by rw [cells_len (sz := 11) (fun _ => rfl)]; simp only [List.length_set]; omega) (cells_setG (f := rowF) (fun _ => rfl) (by simp only [List.length_set]; omega))) ?_
 refine Cx.nil ⟨rfl, ?_⟩
 refine FinX.done (AllC.cons (AllC.cons (AllC.map _))) (Fin.go (wk5 0 2 3 4 11 rfl (Tr.reg0 (cm rfl (cm rfl (Ch.nil (Fin.block ?_)))))))
 exact Fin.famD2V0 (2 * r + 1 + 1) (_)  (⟨⟨⟨by omega, by omega⟩, by simp only [List.length_set]; exact hsl, by rw [← hso]; exact sift_goR h0r hf (by omega) (u := first + (2 * r + 1)) (v := first + (2 * r + 1) + 1) rfl rfl (by omega) (by omega) (by assumption) (by omega) (by omega) (by omega) (by omega) (by assumption)⟩, by omega⟩) ⟨ke rfl, ke rfl, ke rfl, ke rfl, ke rfl, trivial⟩ (fun _ _ h => h)
 refine Tr.skip (Fin.go (Tr.seq (Tr.seq (Tr.reg1 mixed (by kernel_rfl) ?_))))
 iterate 4 refine cm rfl ?_
 refine cad rfl rfl rfl rfl (by omega) (co rfl (okp_indexSl rfl underlying92 sz96 (vl rfl) (vl rfl) (by omega) (by omega)) (co rfl (ok_rd 0 rfl (rd_loadA rfl agg96 sz96 (vl rfl) (cells_atG (f := rowF) (fun _ => rfl) (by omega)) rfl)) (cm rfl (cm rfl (cm rfl (cad rfl rfl rfl rfl (by omega) (co rfl (okp_indexSl rfl underlying92 sz96 (vl rfl) (vl rfl) (by omega) (by omega)) (co rfl (ok_rd 0 rfl (rd_loadA rfl agg96 sz96 (vl rfl) (cells_atG (f := rowF) (fun _ => rfl) (by omega)) rfl)) (co rfl (ok_callc (_, _) rfl (vl rfl) ⟨ke rfl, ke rfl, trivial⟩) (co rfl (ki rfl rfl rfl rfl) (co rfl (ok_not rfl (vl rfl)) (Ch.nil (Fin.go ?_)))))))))))))
 refine wk7 0 2 3 4 10 11 58 rfl ?_
 refine Tr.cn rfl ?_ ?_ <;> intro h5 q5
 refine Tr.ret (Fin.then_ret (Fin.block_ret (Fin.then_ret (Fin.block_ret ?_))))
 refine Fin.closeL (SiftL c hi first lo l) 0 rfl (⟨by omega, by rw [← hso]; exact sift_stopLb h0r hf (by omega) (u := first + (2 * r + 1)) (v := first + (2 * r + 1) + 1) rfl rfl (by omega) (by omega) (Int.not_lt.2 (by assumption)) (x := first + r) (y := first + (2 * r + 1)) rfl rfl (by omega) (by omega) (Int.not_lt.2 (by assumption))⟩) ?_
 exact Fin.retM0r rfl
 refine Tr.skip (Fin.go (Tr.seq (Tr.regX mixed [none, none, none, none, none, none, none, none, none, none, none, none, none, some (0, 0, false, 0), none, none, none, none, none, some (0, 0, false, 0), none, some (0, 0, true, 0), none, some (0, 0, true, 0)] (by kernel_rfl) (xm rfl (xm rfl (xm rfl ?_))))))
 refine xo rfl (fun _ => ok_add rfl (vl rfl) (vl rfl) ?hin) ?_; case hin => unfold InI; omega
 refine xm rfl (xm rfl (xm rfl ?_))
 refine xo rfl (fun _ => ok_add rfl (vl rfl) (vl rfl) ?hin) ?_; case hin => unfold InI; omega
 refine xm rfl (xm rfl (xm rfl ?_))
 refine xo rfl (fun _ => ok_add rfl (vl rfl) (vl rfl) ?hin) ?_; case hin => unfold InI; omega
 refine xo rfl (fun _ => okp_indexSl rfl underlying92 sz96 (vl rfl) (vl rfl) (by omega) (by omega)) (xrd 0 rfl rfl (rd_loadA rfl agg96 sz96 (vl rfl) (cells_atG (f := rowF) (fun _ => rfl) (by omega)) rfl) (xm rfl (xm rfl (xm rfl ?_))))
 refine xo rfl (fun _ => ok_add rfl (vl rfl) (vl rfl) ?hin) ?_; case hin => unfold InI; omega
 refine xo rfl (fun _ => okp_indexSl rfl underlying92 sz96 (vl rfl) (vl rfl) (by omega) (by omega)) (xrd 0 rfl rfl (rd_loadA rfl agg96 sz96 (vl rfl) (cells_atG (f := rowF) (fun _ => rfl) (by omega)) rfl) (xo rfl (fun _ => okp_indexSl rfl underlying92 sz96 (vl rfl) (vl rfl) (by omega) (by omega)) ?_))
 refine Cx.ef0 0 rfl rfl (ef_store rfl rfl (vl rfl) (Va rfl) sz96 rfl (by rw [cells_len (sz := 11) (fun _ => rfl)]; omega) (cells_setG (f := rowF) (fun _ => rfl) (by omega))) ?_
 refine xo rfl (fun _ => okp_indexSl rfl underlying92 sz96 (vl rfl) (vl rfl) (by omega) (by omega)) ?_
 refine Cx.ef0 0 rfl rfl (ef_store rfl rfl (vl rfl) (Va rfl) sz96 rfl (by rw [cells_len (sz := 11) (fun _ => rfl)]; simp only [List.length_set]; omega) (cells_setG (f := rowF) (fun _ => rfl) (by simp only [List.length_set]; omega))) ?_
 refine Cx.nil ⟨rfl, ?_⟩
 refine FinX.done (AllC.cons (AllC.cons (AllC.map _))) (Fin.go (wk5 0 2 3 4 11 rfl (Tr.reg0 (cm rfl (cm rfl (Ch.nil (Fin.block ?_)))))))
 exact Fin.famD2V0 (2 * r + 1) (_)  (⟨⟨⟨by omega, by omega⟩, by simp only [List.length_set]; exact hsl, by rw [← hso]; exact sift_goLb h0r hf (by omega) (u := first + (2 * r + 1)) (v := first + (2 * r + 1) + 1) rfl rfl (by omega) (by omega) (Int.not_lt.2 (by assumption)) (by omega) (by omega) (by omega) (by omega) (by assumption)⟩, by omega⟩) ⟨ke rfl, ke rfl, ke rfl, ke rfl, ke rfl, trivial⟩ (fun _ _ h => h)
 iterate 16 refine cnt h2 rfl ?_
 refine co rfl (kpf rfl rfl h2 rfl) (Ch.nil (Fin.go (wk7 0 2 3 4 10 11 40 rfl (Tr.cond rfl (fun h => nomatch h) (fun _ => ?_)))))
 refine Tr.skip (Fin.go (Tr.seq (Tr.seq (Tr.reg1 mixed (by kernel_rfl) ?_))))
 iterate 4 refine cm rfl ?_
 refine cad rfl rfl rfl rfl (by omega) (co rfl (okp_indexSl rfl underlying92 sz96 (vl rfl) (vl rfl) (by omega) (by omega)) (co rfl (ok_rd 0 rfl (rd_loadA rfl agg96 sz96 (vl rfl) (cells_atG (f := rowF) (fun _ => rfl) (by omega)) rfl)) (cm rfl (cm rfl (cm rfl (cad rfl rfl rfl rfl (by omega) (co rfl (okp_indexSl rfl underlying92 sz96 (vl rfl) (vl rfl) (by omega) (by omega)) (co rfl (ok_rd 0 rfl (rd_loadA rfl agg96 sz96 (vl rfl) (cells_atG (f := rowF) (fun _ => rfl) (by omega)) rfl)) (co rfl (ok_callc (_, _) rfl (vl rfl) ⟨ke rfl, ke rfl, trivial⟩) (co rfl (ki rfl rfl rfl rfl) (co rfl (ok_not rfl (vl rfl)) (Ch.nil (Fin.go ?_)))))))))))))
 refine wk7 0 2 3 4 10 11 58 rfl ?_
 refine Tr.cn rfl ?_ ?_ <;> intro h6 q6
 refine Tr.ret (Fin.then_ret (Fin.block_ret (Fin.then_ret (Fin.block_ret ?_))))
 refine Fin.closeL (SiftL c hi first lo l) 0 rfl (⟨by omega, by rw [← hso]; exact sift_stopLa h0r hf (by omega) (by omega) (x := first + r) (y := first + (2 * r + 1)) rfl rfl (by omega) (by omega) (Int.not_lt.2 (by assumption))⟩) ?_
 exact Fin.retM0r rfl
 refine Tr.skip (Fin.go (Tr.seq (Tr.regX mixed [none, none, none, none, none, none, none, none, none, none, none, none, none, some (0, 0, false, 0), none, none, none, none, none, some (0, 0, false, 0), none, some (0, 0, true, 0), none, some (0, 0, true, 0)] (by kernel_rfl) (xm rfl (xm rfl (xm rfl ?_))))))
 refine xo rfl (fun _ => ok_add rfl (vl rfl) (vl rfl) ?hin) ?_; case hin => unfold InI; omega
 refine xm rfl (xm rfl (xm rfl ?_))
 refine xo rfl (fun _ => ok_add rfl (vl rfl) (vl rfl) ?hin) ?_; case hin => unfold InI; omega
 refine xm rfl (xm rfl (xm rfl ?_))
 refine xo rfl (fun _ => ok_add rfl (vl rfl) (vl rfl) ?hin) ?_; case hin => unfold InI; omega
 refine xo rfl (fun _ => okp_indexSl rfl underlying92 sz96 (vl rfl) (vl rfl) (by omega) (by omega)) (xrd 0 rfl rfl (rd_loadA rfl agg96 sz96 (vl rfl) (cells_atG (f := rowF) (fun _ => rfl) (by omega)) rfl) (xm rfl (xm rfl (xm rfl ?_))))
 refine xo rfl (fun _ => ok_add rfl (vl rfl) (vl rfl) ?hin) ?_; case hin => unfold InI; omega
 refine xo rfl (fun _ => okp_indexSl rfl underlying92 sz96 (vl rfl) (vl rfl) (by omega) (by omega)) (xrd 0 rfl rfl (rd_loadA rfl agg96 sz96 (vl rfl) (cells_atG (f := rowF) (fun _ => rfl) (by omega)) rfl) (xo rfl (fun _ => okp_indexSl rfl underlying92 sz96 (vl rfl) (vl rfl) (by omega) (by omega)) ?_))
 refine Cx.ef0 0 rfl rfl (ef_store rfl rfl (vl rfl) (Va rfl) sz96 rfl (by rw [cells_len (sz := 11) (fun _ => rfl)]; omega) (cells_setG (f := rowF) (fun _ => rfl) (by omega))) ?_
 refine xo rfl (fun _ => okp_indexSl rfl underlying92 sz96 (vl rfl) (vl rfl) (by omega) (by omega)) ?_
 refine Cx.ef0 0 rfl rfl (ef_store rfl rfl (vl rfl) (Va rfl) sz96 rfl (by rw [cells_len (sz := 11) (fun _ => rfl)]; simp only [List.length_set]; omega) (cells_setG (f := rowF) (fun _ => rfl) (by simp only [List.length_set]; omega))) ?_
 refine Cx.nil ⟨rfl, ?_⟩
 refine FinX.done (AllC.cons (AllC.cons (AllC.map _))) (Fin.go (wk5 0 2 3 4 11 rfl (Tr.reg0 (cm rfl (cm rfl (Ch.nil (Fin.block ?_)))))))
 exact Fin.famD2V0 (2 * r + 1) (_)  (⟨⟨⟨by omega, by omega⟩, by simp only [List.length_set]; exact hsl, by rw [← hso]; exact sift_goLa h0r hf (by omega) (by omega) (by omega) (by omega) (by omega) (by omega) (by assumption)⟩, by omega⟩) ⟨ke rfl, ke rfl, ke rfl, ke rfl, ke rfl, trivial⟩ (fun _ _ h => h)
theorem w_sheapG {l : List Fnd} {c : Fnd × Fnd → Int} {b0 cap len : Nat} {sp : List Value} {a b : Int} (hln : l.length = len) (hll : len ≤ 1000000) (hw : Go.Sort.SWO (ltc c)) (h0 : 0 ≤ a) (hab : a ≤ b) (hb : b ≤ len) : FunM prog 271 [is (.slice (some ⟨b0, 0, none⟩) len cap), int a, int b, clo prog (fun x : Fnd × Fnd => [agg (rowF x.1), agg (rowF x.2)]) (fun x => int (c x))] (unit_) (cellsRes true b0 96 ((l.map rowF).flatten ++ sp.map is)) (fun _ => relRes b0 96 rowF (SortL c a b l) (sp.map is)) := by
 refine FunM.of func271 rfl rfl (by exact Nb rfl) fun M0 w0 S rs M1 w1 => ?_
 have hq : IntKind.i64.wrap ((b - a - 1).tdiv 2) = (((b.toNat - a.toNat - 1) / 2 : Nat) : Int) := heap_half (by omega) (by omega) (by omega)
 iterate 4 refine ac ?_
 refine co rfl (ok_quo rfl (vl rfl) (vl rfl) (by omega)) ?_
 refine ac ?_
 refine Tr.block (Tr.loopD2V0 [(0, _), (3, _), (8, _), (9, _), (10, _)] ⟨ke rfl, ke rfl, ke rfl, ke rfl, ke rfl, trivial⟩ (fun (i : Int) (st : List Fnd) => [(11, int i)]) (fun (i : Int) (st : List Fnd) => Hp M0 w0 S (cellsRes true b0 96 ((st.map rowF).flatten ++ sp.map is) :: extRes M1 w1 :: rs)) (fun (i : Int) (st : List Fnd) => (-1 ≤ i ∧ i ≤ b - a) ∧ st.length = len ∧ Go.Sort.heapBuild (ltc c) (b - a).toNat a.toNat (i + 1).toNat st.toArray = Go.Sort.heapBuild (ltc c) (b - a).toNat a.toNat ((b.toNat - a.toNat - 1) / 2 + 1) l.toArray) (fun (i : Int) (st : List Fnd) => (i + 1).toNat) ((((b.toNat - a.toNat - 1) / 2 : Nat) : Int)) (l)  (⟨⟨by omega, by omega⟩, by omega, by rw [show ((((b.toNat - a.toNat - 1) / 2 : Nat) : Int) + 1).toNat = (b.toNat - a.toNat - 1) / 2 + 1 by omega]⟩) ⟨⟨_, rfl, int_eq hq⟩, trivial⟩ (fun _ _ h => h) ?_)
 rintro i st  ⟨⟨hi1, hi2⟩, hsl, hso⟩
 refine an ?_ ?_ <;> intro h1 q1
 have hib : 0 ≤ i := of_decide_eq_true h1
 refine ac ?_
 refine ap ?_
 refine TO.efc 0 rfl rfl (by decide) (ef_callc rfl rfl (by decide) rfl (w_ssiftG (by omega) (by omega) (by omega) (by omega) (by omega) (by omega)) ⟨ke rfl, ke rfl, ke rfl, ke rfl, ke rfl, trivial⟩) (TO.openL 0 rfl fun t1 hp1 => ?_)
 have hpl1 := hp1.len
 refine ap ?_
 refine wk6 0 3 8 9 10 11 rfl ?_
 refine ac ?_
 exact Fin.famD2V0 (i - 1) (t1)  (⟨⟨⟨by omega, by omega⟩, by omega, by rw [hp1.2]; exact (build_go hib).trans hso⟩, by omega⟩) ⟨ke rfl, ke rfl, ke rfl, ke rfl, ke rfl, ke rfl, trivial⟩ (fun _ _ h => h)
 have hib : ¬ 0 ≤ i := of_decide_eq_false h1
 rw [build_end hib] at hso
 refine a2 ?_
 refine Tr.block (Tr.loopD2V0 [(0, _), (3, _), (8, _), (9, _)] ⟨ke rfl, ke rfl, ke rfl, ke rfl, trivial⟩ (fun (i2 : Int) (st2 : List Fnd) => [(12, int i2)]) (fun (i2 : Int) (st2 : List Fnd) => Hp M0 w0 S (cellsRes true b0 96 ((st2.map rowF).flatten ++ sp.map is) :: extRes M1 w1 :: rs)) (fun (i2 : Int) (st2 : List Fnd) => (-1 ≤ i2 ∧ i2 < b - a) ∧ st2.length = len ∧ Go.Sort.heapPop (ltc c) a.toNat (i2 + 1).toNat st2.toArray = Go.Sort.heapPop (ltc c) a.toNat (b - a).toNat st.toArray) (fun (i2 : Int) (st2 : List Fnd) => (i2 + 1).toNat) (b - a - 1) (st)  (⟨⟨by omega, by omega⟩, by omega, by rw [show (b - a - 1 + 1).toNat = (b - a).toNat by omega]⟩) ⟨ke rfl, trivial⟩ (fun _ _ h => h) ?_)
 rintro i2 st2  ⟨⟨hj1, hj2⟩, hsl2, hso2⟩
 refine an ?_ ?_ <;> intro h2 q2
 have hib2 : 0 ≤ i2 := of_decide_eq_true h2
 refine ac ?_
 refine Tr.seq (Tr.block (Tr.seq (Tr.rx ?_)))
 refine ay ?_
 refine xo rfl (fun _ => okp_indexSl rfl underlying92 sz96 (vl rfl) (vl rfl) (by omega) (by omega)) (xrd 0 rfl rfl (rd_loadA rfl agg96 sz96 (vl rfl) (cells_atG (f := rowF) (fun _ => rfl) (by omega)) rfl) ?_)
 refine ay ?_
 refine xo rfl (fun _ => okp_indexSl rfl underlying92 sz96 (vl rfl) (vl rfl) (by omega) (by omega)) (xrd 0 rfl rfl (rd_loadA rfl agg96 sz96 (vl rfl) (cells_atG (f := rowF) (fun _ => rfl) (by omega)) rfl) (xo rfl (fun _ => okp_indexSl rfl underlying92 sz96 (vl rfl) (vl rfl) (by omega) (by omega)) ?_))
 refine Cx.ef0 0 rfl rfl (ef_store rfl rfl (vl rfl) (Va rfl) sz96 rfl (by rw [cells_len (sz := 11) (fun _ => rfl)]; omega) (cells_setG (f := rowF) (fun _ => rfl) (by omega))) ?_
 refine xo rfl (fun _ => okp_indexSl rfl underlying92 sz96 (vl rfl) (vl rfl) (by omega) (by omega)) ?_
 refine Cx.ef0 0 rfl rfl (ef_store rfl rfl (vl rfl) (Va rfl) sz96 rfl (by rw [cells_len (sz := 11) (fun _ => rfl)]; simp only [List.length_set]; omega) (cells_setG (f := rowF) (fun _ => rfl) (by simp only [List.length_set]; omega))) ?_
 refine Cx.nil ⟨by kernel_rfl, ?_⟩
 refine FinX.done al2 (Fin.go (wk5 0 3 8 9 12 rfl ?_))
 refine ap ?_
 refine TO.efc 0 rfl rfl (by decide) (ef_callc rfl rfl (by decide) rfl (w_ssiftG (by simp only [List.length_set]; omega) (by omega) (by omega) (by omega) (by omega) (by omega)) ⟨ke rfl, ke rfl, ke rfl, ke rfl, ke rfl, trivial⟩) ?_
 refine TO.openL 0 rfl fun t2 hp2 => ?_
 have hpl2 := hp2.len
 refine ap ?_
 refine ac ?_
 exact Fin.famD2V0 (i2 - 1) (t2)  (⟨⟨⟨by omega, by omega⟩, by simp only [List.length_set] at hpl2; omega, by rw [hp2.2, sw (by omega) (by omega), show (a + i2).toNat = a.toNat + i2.toNat by omega]; exact (pop_go hib2).trans hso2⟩, by omega⟩) ⟨ke rfl, ke rfl, ke rfl, ke rfl, ke rfl, trivial⟩ (fun _ _ h => h)
 have hib2 : ¬ 0 ≤ i2 := of_decide_eq_false h2
 rw [pop_end hib2] at hso2
 refine Tr.exit (Fin.then_exit (Fin.then_exit (Fin.block_here ?_)))
 refine Fin.closeL (SortL c a b l) 0 rfl (by unfold SortL; rw [hso2, hso]; exact heap_holds hw l.toArray h0 hab (by simp only [List.size_toArray]; omega)) ?_
 exact Fin.retM0 rfl
theorem w_srevG {l : List Fnd} {c : Fnd × Fnd → Int} {b0 cap len : Nat} {sp : List Value} {a b : Int} (hln : l.length = len) (hll : len ≤ 1000000) (h0 : 0 ≤ a) (hab : a < b) (hb : b ≤ len) : FunM prog 274 [is (.slice (some ⟨b0, 0, none⟩) len cap), int a, int b, clo prog (fun x : Fnd × Fnd => [agg (rowF x.1), agg (rowF x.2)]) (fun x => int (c x))] (unit_) (cellsRes true b0 96 ((l.map rowF).flatten ++ sp.map is)) (fun _ => relRes b0 96 rowF (PermL a b l) (sp.map is)) := by
 refine FunM.of func274 rfl rfl (by exact Nb rfl) fun M0 w0 S rs M1 w1 => ?_
 refine a2 ?_
 refine Tr.block (Tr.loopD3V0 [(0, _)] ⟨ke rfl, trivial⟩ (fun (i : Int) (j : Int) (st : List Fnd) => [(8, int i), (9, int j)]) (fun (i : Int) (j : Int) (st : List Fnd) => Hp M0 w0 S (cellsRes true b0 96 ((st.map rowF).flatten ++ sp.map is) :: extRes M1 w1 :: rs)) (fun (i : Int) (j : Int) (st : List Fnd) => (a ≤ i ∧ j < b ∧ -1 ≤ j ∧ i ≤ b) ∧ st.length = len ∧ PermL a b l st) (fun (i : Int) (j : Int) (st : List Fnd) => (j - i).toNat) (a) (b - 1) (l)  (⟨⟨by omega, by omega, by omega, by omega⟩, by omega, PermL.refl _ _ _⟩) ⟨ke rfl, ke rfl, trivial⟩ (fun _ _ h => h) ?_)
 rintro i j st  ⟨⟨hi1, hi2, hi3, hi4⟩, hsl, hso⟩
 refine an ?_ ?_ <;> intro h1 q1
 have hij : i < j := of_decide_eq_true h1
 refine ac ?_
 refine Tr.block (Tr.seq (Tr.rx ?_))
 refine ay ?_
 refine xo rfl (fun _ => okp_indexSl rfl underlying92 sz96 (vl rfl) (vl rfl) (by omega) (by omega)) (xrd 0 rfl rfl (rd_loadA rfl agg96 sz96 (vl rfl) (cells_atG (f := rowF) (fun _ => rfl) (by omega)) rfl) ?_)
 refine ay ?_
 refine xo rfl (fun _ => okp_indexSl rfl underlying92 sz96 (vl rfl) (vl rfl) (by omega) (by omega)) (xrd 0 rfl rfl (rd_loadA rfl agg96 sz96 (vl rfl) (cells_atG (f := rowF) (fun _ => rfl) (by omega)) rfl) (xo rfl (fun _ => okp_indexSl rfl underlying92 sz96 (vl rfl) (vl rfl) (by omega) (by omega)) ?_))
 refine Cx.ef0 0 rfl rfl (ef_store rfl rfl (vl rfl) (Va rfl) sz96 rfl (by rw [cells_len (sz := 11) (fun _ => rfl)]; omega) (cells_setG (f := rowF) (fun _ => rfl) (by omega))) ?_
 refine xo rfl (fun _ => okp_indexSl rfl underlying92 sz96 (vl rfl) (vl rfl) (by omega) (by omega)) ?_
 refine Cx.ef0 0 rfl rfl (ef_store rfl rfl (vl rfl) (Va rfl) sz96 rfl (by rw [cells_len (sz := 11) (fun _ => rfl)]; simp only [List.length_set]; omega) (cells_setG (f := rowF) (fun _ => rfl) (by simp only [List.length_set]; omega))) ?_
 refine Cx.nil ⟨by kernel_rfl, ?_⟩
 refine FinX.done al2 (Fin.go (wk3 0 8 9 rfl ?_))
 refine a2 ?_
 exact Fin.famD3V0 (i + 1) (j - 1) (_)  (⟨⟨⟨by omega, by omega, by omega, by omega⟩, by simp only [List.length_set]; exact hsl, hso.swap (by omega) (by omega) (by omega) (by omega) (by omega) (by omega) (by omega)⟩, by omega⟩) ⟨ke rfl, ke rfl, ke rfl, trivial⟩ (fun _ _ h => h)
 have := h1
 refine Tr.exit (Fin.then_exit (Fin.then_exit (Fin.block_here (Fin.closeL (PermL a b l) 0 rfl (hso) (Fin.retM0 rfl)))))
theorem w_speqG {l : List Fnd} {c : Fnd × Fnd → Int} {b0 cap len : Nat} {sp : List Value} {a b pv : Int} (hln : l.length = len) (hll : len ≤ 1000000) (h0 : 0 ≤ a) (hab : a < b) (hb : b ≤ len) (hp1 : a ≤ pv) (hp2 : pv < b) : FunM prog 276 [is (.slice (some ⟨b0, 0, none⟩) len cap), int a, int b, int pv, clo prog (fun x : Fnd × Fnd => [agg (rowF x.1), agg (rowF x.2)]) (fun x => int (c x))] (int ((PE c a b pv l).1 : Nat)) (cellsRes true b0 96 ((l.map rowF).flatten ++ sp.map is)) (fun _ => relRes b0 96 rowF (PartE c a b pv l) (sp.map is)) := by
 refine FunM.of func276 rfl rfl (by exact Nb rfl) fun M0 w0 S rs M1 w1 => ?_
 have hal : a.toNat < l.length := by omega
 have hpv : pv.toNat < l.length := by omega
 refine ac ?_
 refine Tr.seq (Tr.rx ?_)
 refine ay ?_
 refine xo rfl (fun _ => okp_indexSl rfl underlying92 sz96 (vl rfl) (vl rfl) (by omega) (by omega)) (xrd 0 rfl rfl (rd_loadA rfl agg96 sz96 (vl rfl) (cells_atG (f := rowF) (fun _ => rfl) (by omega)) rfl) ?_)
 refine ay ?_
 refine xo rfl (fun _ => okp_indexSl rfl underlying92 sz96 (vl rfl) (vl rfl) (by omega) (by omega)) (xrd 0 rfl rfl (rd_loadA rfl agg96 sz96 (vl rfl) (cells_atG (f := rowF) (fun _ => rfl) (by omega)) rfl) (xo rfl (fun _ => okp_indexSl rfl underlying92 sz96 (vl rfl) (vl rfl) (by omega) (by omega)) ?_))
 refine Cx.ef0 0 rfl rfl (ef_store rfl rfl (vl rfl) (Va rfl) sz96 rfl (by rw [cells_len (sz := 11) (fun _ => rfl)]; omega) (cells_setG (f := rowF) (fun _ => rfl) (by omega))) ?_
 refine xo rfl (fun _ => okp_indexSl rfl underlying92 sz96 (vl rfl) (vl rfl) (by omega) (by omega)) ?_
 refine Cx.ef0 0 rfl rfl (ef_store rfl rfl (vl rfl) (Va rfl) sz96 rfl (by rw [cells_len (sz := 11) (fun _ => rfl)]; simp only [List.length_set]; omega) (cells_setG (f := rowF) (fun _ => rfl) (by simp only [List.length_set]; omega))) ?_
 refine Cx.nil ⟨by kernel_rfl, ?_⟩
 refine FinX.done al2 (Fin.go (wk4 0 1 2 4 rfl ?_))
 refine ac ?_
 refine Tr.seq (Tr.block ?_)
 refine Tr.loopD3V0 [(0, _), (1, _), (4, _)] ⟨ke rfl, ke rfl, ke rfl, trivial⟩ (fun (i : Int) (j : Int) (st : List Fnd) => [(11, int i), (12, int j)]) (fun (i : Int) (j : Int) (st : List Fnd) => Hp M0 w0 S (cellsRes true b0 96 ((st.map rowF).flatten ++ sp.map is) :: extRes M1 w1 :: rs)) (fun (i : Int) (j : Int) (st : List Fnd) => ((a < i ∧ i ≤ b) ∧ a ≤ j ∧ j < b) ∧ st.length = len ∧ PLe c a i j st.toArray = PE c a b pv l) (fun (i : Int) (j : Int) (st : List Fnd) => (j - i + 2).toNat) (a + 1) (b - 1) (((l.set a.toNat (l[pv.toNat]'hpv)).set pv.toNat (l[a.toNat]'hal)))  (⟨⟨⟨by omega, by omega⟩, by omega, by omega⟩, by simp only [List.length_set]; exact hln, pe_start h0 hab hal hpv⟩) ⟨ke rfl, ke rfl, trivial⟩ (fun _ _ h => h) ?_
 rintro i j st  ⟨⟨⟨hi1, hi2⟩, hj1, hj2⟩, hsl, hso⟩
 refine Tr.block (wk5 0 1 4 11 12 rfl (Tr.cutk [0, 1, 4, 12] [(11, ex fun y : Int => fact ((i ≤ y ∧ y ≤ b) ∧ True ∧ y.toNat = Go.Sort.scanUp (qU c st.toArray a) st.toArray (j).toNat (i).toNat) (int y))] (True) ?_ (fun h1 => ?_)))
 refine Tr.block (Tr.loopw [(0, _), (1, _), (4, _), (12, _)] (kk4 rfl) (fun y : Int => [(11, int y)]) (fun y : Int => (i ≤ y ∧ y ≤ b) ∧ Go.Sort.scanUp (qU c st.toArray a) st.toArray (j).toNat (y).toNat = Go.Sort.scanUp (qU c st.toArray a) st.toArray (j).toNat (i).toNat) (fun y : Int => (b - y).toNat) i (⟨⟨by omega, by omega⟩, rfl⟩) ⟨ke rfl, trivial⟩ ?_)
 rintro y ⟨⟨hscAa, hscAb⟩, hscAc⟩
 refine ag ?_ ?_ <;> intro h2 q2
 refine ac ?_
 refine cy h2 rfl (okp_indexSl rfl underlying92 sz96 (vl rfl) (vl rfl) (by omega) (by omega)) (cy h2 rfl (ok_rd 0 rfl (rd_loadA rfl agg96 sz96 (vl rfl) (cells_atG (f := rowF) (fun _ => rfl) (by omega)) rfl)) ?_)
 refine ac ?_
 refine cy h2 rfl (okp_indexSl rfl underlying92 sz96 (vl rfl) (vl rfl) (by omega) (by omega)) (cy h2 rfl (ok_rd 0 rfl (rd_loadA rfl agg96 sz96 (vl rfl) (cells_atG (f := rowF) (fun _ => rfl) (by omega)) rfl)) (cy h2 rfl (ok_callc (_, _) rfl (vl rfl) ⟨ke rfl, ke rfl, trivial⟩) ?_))
 refine ac ?_
 refine wk6 0 1 4 11 12 47 rfl ?_
 refine Tr.cn rfl ?_ ?_ <;> intro h3 q3
 have := h3
 refine a2 ?_
 exact Fin.fam_same (y + 1) ⟨⟨⟨by omega, by omega⟩, by rw [su_go (by omega) (by omega) (by omega) (qU_t (by omega) (by omega) (Int.not_lt.2 (by assumption)))]; exact hscAc⟩, by omega⟩ (kk5 rfl)
 have := h3
 refine Tr.exit (Fin.then_exit (Fin.then_exit (Fin.block_here ?_)))
 exact Fin.fam_same () trivial ⟨⟨_, rfl, ex_in _ (fact_in ⟨⟨by omega, by omega⟩, trivial, by rw [← hscAc]; exact (su_stopB (by omega) (qU_f (by omega) (by omega) (by assumption))).symm⟩ (Lr))⟩, ke rfl, ke rfl, ke rfl, ke rfl, trivial⟩
 refine ac ?_
 refine wk6 0 1 4 11 12 47 rfl (Tr.cond rfl (fun h => nomatch h) (fun _ => ?_))
 refine Tr.exit (Fin.then_exit (Fin.then_exit (Fin.block_here ?_)))
 exact Fin.fam_same () trivial ⟨⟨_, rfl, ex_in _ (fact_in ⟨⟨by omega, by omega⟩, trivial, by rw [← hscAc]; exact (su_stopA (by omega) (by omega)).symm⟩ (Lr))⟩, ke rfl, ke rfl, ke rfl, ke rfl, trivial⟩
 refine Tr.ex 11 rfl (fun i2 => Tr.fact 11 rfl fun hci2 => ?_)
 obtain ⟨hci2a, hci2b, hci2c⟩ := hci2
 refine wk5 0 1 4 11 12 rfl (Tr.cutk [0, 1, 4, 11] [(12, ex fun y : Int => fact ((a ≤ y ∧ y ≤ j) ∧ True ∧ y.toNat = Go.Sort.scanDown (qD c st.toArray a) st.toArray (i2).toNat (j).toNat) (int y))] (True) ?_ (fun h4 => ?_))
 refine Tr.block (Tr.loopw [(0, _), (1, _), (4, _), (11, _)] (kk4 rfl) (fun y : Int => [(12, int y)]) (fun y : Int => (a ≤ y ∧ y ≤ j) ∧ Go.Sort.scanDown (qD c st.toArray a) st.toArray (i2).toNat (y).toNat = Go.Sort.scanDown (qD c st.toArray a) st.toArray (i2).toNat (j).toNat) (fun y : Int => (y - a).toNat) j (⟨⟨by omega, by omega⟩, rfl⟩) ⟨ke rfl, trivial⟩ ?_)
 rintro y ⟨⟨hscBa, hscBb⟩, hscBc⟩
 refine ag ?_ ?_ <;> intro h5 q5
 refine ac ?_
 refine cy h5 rfl (okp_indexSl rfl underlying92 sz96 (vl rfl) (vl rfl) (by omega) (by omega)) (cy h5 rfl (ok_rd 0 rfl (rd_loadA rfl agg96 sz96 (vl rfl) (cells_atG (f := rowF) (fun _ => rfl) (by omega)) rfl)) ?_)
 refine ac ?_
 refine cy h5 rfl (okp_indexSl rfl underlying92 sz96 (vl rfl) (vl rfl) (by omega) (by omega)) (cy h5 rfl (ok_rd 0 rfl (rd_loadA rfl agg96 sz96 (vl rfl) (cells_atG (f := rowF) (fun _ => rfl) (by omega)) rfl)) (cy h5 rfl (ok_callc (_, _) rfl (vl rfl) ⟨ke rfl, ke rfl, trivial⟩) ?_))
 refine ac ?_
 refine wk6 0 1 4 11 12 65 rfl ?_
 refine Tr.cn rfl ?_ ?_ <;> intro h6 q6
 have := h6
 refine a2 ?_
 exact Fin.fam_same (y - 1) ⟨⟨⟨by omega, by omega⟩, by rw [sd_go (by omega) (by omega) (by omega) (qD_t (by omega) (by omega) (by assumption))]; exact hscBc⟩, by omega⟩ (kk5 rfl)
 have := h6
 refine Tr.exit (Fin.then_exit (Fin.then_exit (Fin.block_here ?_)))
 exact Fin.fam_same () trivial ⟨⟨_, rfl, ex_in _ (fact_in ⟨⟨by omega, by omega⟩, trivial, by rw [← hscBc]; exact (sd_stopB (by omega) (qD_f (by omega) (by omega) (Int.not_lt.2 (by assumption)))).symm⟩ (Lr))⟩, ke rfl, ke rfl, ke rfl, ke rfl, trivial⟩
 refine ac ?_
 refine wk6 0 1 4 11 12 65 rfl (Tr.cond rfl (fun h => nomatch h) (fun _ => ?_))
 refine Tr.exit (Fin.then_exit (Fin.then_exit (Fin.block_here ?_)))
 exact Fin.fam_same () trivial ⟨⟨_, rfl, ex_in _ (fact_in ⟨⟨by omega, by omega⟩, trivial, by rw [← hscBc]; exact (sd_stopA (by omega) (by omega)).symm⟩ (Lr))⟩, ke rfl, ke rfl, ke rfl, ke rfl, trivial⟩
 refine Tr.ex 12 rfl (fun j2 => Tr.fact 12 rfl fun hcj2 => ?_)
 obtain ⟨hcj2a, hcj2b, hcj2c⟩ := hcj2
 refine an ?_ ?_ <;> intro h7 q7
 refine a2 ?_
 refine Tr.ret (Fin.closeL (PartE c a b pv l) 0 rfl (⟨by omega, by rw [hso.symm.trans (peq_stop hci2c hcj2c (by omega) (by omega))]⟩) ?_)
 have hE := hso.symm.trans (peq_stop hci2c hcj2c (by omega) (by omega))
 refine Fin.retM1 rfl rfl ?_ (fun _ _ _ _ => rfl)
 · exact int_eq (by rw [hE]; show i2 = ((i2.toNat : Nat) : Int); omega)
 refine ac ?_
 refine Tr.seq (Tr.rx ?_)
 refine ay ?_
 refine xo rfl (fun _ => okp_indexSl rfl underlying92 sz96 (vl rfl) (vl rfl) (by omega) (by omega)) (xrd 0 rfl rfl (rd_loadA rfl agg96 sz96 (vl rfl) (cells_atG (f := rowF) (fun _ => rfl) (by omega)) rfl) ?_)
 refine ay ?_
 refine xo rfl (fun _ => okp_indexSl rfl underlying92 sz96 (vl rfl) (vl rfl) (by omega) (by omega)) (xrd 0 rfl rfl (rd_loadA rfl agg96 sz96 (vl rfl) (cells_atG (f := rowF) (fun _ => rfl) (by omega)) rfl) (xo rfl (fun _ => okp_indexSl rfl underlying92 sz96 (vl rfl) (vl rfl) (by omega) (by omega)) ?_))
 refine Cx.ef0 0 rfl rfl (ef_store rfl rfl (vl rfl) (Va rfl) sz96 rfl (by rw [cells_len (sz := 11) (fun _ => rfl)]; omega) (cells_setG (f := rowF) (fun _ => rfl) (by omega))) ?_
 refine xo rfl (fun _ => okp_indexSl rfl underlying92 sz96 (vl rfl) (vl rfl) (by omega) (by omega)) ?_
 refine Cx.ef0 0 rfl rfl (ef_store rfl rfl (vl rfl) (Va rfl) sz96 rfl (by rw [cells_len (sz := 11) (fun _ => rfl)]; simp only [List.length_set]; omega) (cells_setG (f := rowF) (fun _ => rfl) (by simp only [List.length_set]; omega))) ?_
 refine Cx.nil ⟨by kernel_rfl, ?_⟩
 refine FinX.done al2 (Fin.go (wk5 0 1 4 11 12 rfl ?_))
 refine a2 ?_
 exact Fin.famD3V0 (i2 + 1) (j2 - 1) (_)  (⟨⟨⟨⟨by omega, by omega⟩, by omega, by omega⟩, by simp only [List.length_set]; exact hsl, (peq_go hci2c hcj2c (by omega) (by omega) (by omega) (by omega)).trans hso⟩, by omega⟩) ⟨ke rfl, ke rfl, ke rfl, ke rfl, ke rfl, trivial⟩ (fun _ _ h => h)
theorem w_spartG {l : List Fnd} {c : Fnd × Fnd → Int} {b0 cap len : Nat} {sp : List Value} {a b pv : Int} (hln : l.length = len) (hll : len ≤ 1000000) (h0 : 0 ≤ a) (hab : a < b) (hb : b ≤ len) (hp1 : a ≤ pv) (hp2 : pv < b) : FunM prog 277 [is (.slice (some ⟨b0, 0, none⟩) len cap), int a, int b, int pv, clo prog (fun x : Fnd × Fnd => [agg (rowF x.1), agg (rowF x.2)]) (fun x => int (c x))] (ex fun z : Bool => fact True (tup [int ((PA c a b pv l).1 : Nat), bool z])) (cellsRes true b0 96 ((l.map rowF).flatten ++ sp.map is)) (fun _ => relRes b0 96 rowF (PartL c a b pv l) (sp.map is)) := by
 refine FunM.of func277 rfl rfl (by exact Nb rfl) fun M0 w0 S rs M1 w1 => ?_
 have hal : a.toNat < l.length := by omega
 have hpv : pv.toNat < l.length := by omega
 have hS1 : ((l.set a.toNat (l[pv.toNat]'hpv)).set pv.toNat (l[a.toNat]'hal)).length = len := by simp only [List.length_set]; exact hln
 refine ac ?_
 refine Tr.seq (Tr.rx ?_)
 refine ay ?_
 refine xo rfl (fun _ => okp_indexSl rfl underlying92 sz96 (vl rfl) (vl rfl) (by omega) (by omega)) (xrd 0 rfl rfl (rd_loadA rfl agg96 sz96 (vl rfl) (cells_atG (f := rowF) (fun _ => rfl) (by omega)) rfl) ?_)
 refine ay ?_
 refine xo rfl (fun _ => okp_indexSl rfl underlying92 sz96 (vl rfl) (vl rfl) (by omega) (by omega)) (xrd 0 rfl rfl (rd_loadA rfl agg96 sz96 (vl rfl) (cells_atG (f := rowF) (fun _ => rfl) (by omega)) rfl) (xo rfl (fun _ => okp_indexSl rfl underlying92 sz96 (vl rfl) (vl rfl) (by omega) (by omega)) ?_))
 refine Cx.ef0 0 rfl rfl (ef_store rfl rfl (vl rfl) (Va rfl) sz96 rfl (by rw [cells_len (sz := 11) (fun _ => rfl)]; omega) (cells_setG (f := rowF) (fun _ => rfl) (by omega))) ?_
 refine xo rfl (fun _ => okp_indexSl rfl underlying92 sz96 (vl rfl) (vl rfl) (by omega) (by omega)) ?_
 refine Cx.ef0 0 rfl rfl (ef_store rfl rfl (vl rfl) (Va rfl) sz96 rfl (by rw [cells_len (sz := 11) (fun _ => rfl)]; simp only [List.length_set]; omega) (cells_setG (f := rowF) (fun _ => rfl) (by simp only [List.length_set]; omega))) ?_
 refine Cx.nil ⟨by kernel_rfl, ?_⟩
 refine FinX.done al2 (Fin.go (wk4 0 1 2 4 rfl ?_))
 refine ac ?_
 refine wk5 0 1 4 12 13 rfl (Tr.cutk [0, 1, 4, 13] [(12, ex fun y : Int => fact (((a + 1) ≤ y ∧ y ≤ b) ∧ True ∧ y.toNat = Go.Sort.scanUp (pU c ((l.set a.toNat (l[pv.toNat]'hpv)).set pv.toNat (l[a.toNat]'hal)).toArray a) ((l.set a.toNat (l[pv.toNat]'hpv)).set pv.toNat (l[a.toNat]'hal)).toArray ((b - 1)).toNat ((a + 1)).toNat) (int y))] (True) ?_ (fun h1 => ?_))
 refine Tr.block (Tr.loopw [(0, _), (1, _), (4, _), (13, _)] (kk4 rfl) (fun y : Int => [(12, int y)]) (fun y : Int => ((a + 1) ≤ y ∧ y ≤ b) ∧ Go.Sort.scanUp (pU c ((l.set a.toNat (l[pv.toNat]'hpv)).set pv.toNat (l[a.toNat]'hal)).toArray a) ((l.set a.toNat (l[pv.toNat]'hpv)).set pv.toNat (l[a.toNat]'hal)).toArray ((b - 1)).toNat (y).toNat = Go.Sort.scanUp (pU c ((l.set a.toNat (l[pv.toNat]'hpv)).set pv.toNat (l[a.toNat]'hal)).toArray a) ((l.set a.toNat (l[pv.toNat]'hpv)).set pv.toNat (l[a.toNat]'hal)).toArray ((b - 1)).toNat ((a + 1)).toNat) (fun y : Int => (b - y).toNat) (a + 1) (⟨⟨by omega, by omega⟩, rfl⟩) ⟨ke rfl, trivial⟩ ?_)
 rintro y ⟨⟨hscAa, hscAb⟩, hscAc⟩
 refine ag ?_ ?_ <;> intro h2 q2
 refine ac ?_
 refine cy h2 rfl (okp_indexSl rfl underlying92 sz96 (vl rfl) (vl rfl) (by omega) (by omega)) (cy h2 rfl (ok_rd 0 rfl (rd_loadA rfl agg96 sz96 (vl rfl) (cells_atG (f := rowF) (fun _ => rfl) (by omega)) rfl)) ?_)
 refine ac ?_
 refine cy h2 rfl (okp_indexSl rfl underlying92 sz96 (vl rfl) (vl rfl) (by omega) (by omega)) (cy h2 rfl (ok_rd 0 rfl (rd_loadA rfl agg96 sz96 (vl rfl) (cells_atG (f := rowF) (fun _ => rfl) (by omega)) rfl)) (cy h2 rfl (ok_callc (_, _) rfl (vl rfl) ⟨ke rfl, ke rfl, trivial⟩) ?_))
 refine ac ?_
 refine wk6 0 1 4 12 13 47 rfl ?_
 refine Tr.cn rfl ?_ ?_ <;> intro h3 q3
 have := h3
 refine a2 ?_
 exact Fin.fam_same (y + 1) ⟨⟨⟨by omega, by omega⟩, by rw [su_go (by omega) (by omega) (by omega) (pU_t (by omega) (by omega) (by assumption))]; exact hscAc⟩, by omega⟩ (kk5 rfl)
 have := h3
 refine Tr.exit (Fin.then_exit (Fin.then_exit (Fin.block_here ?_)))
 exact Fin.fam_same () trivial ⟨⟨_, rfl, ex_in _ (fact_in ⟨⟨by omega, by omega⟩, trivial, by rw [← hscAc]; exact (su_stopB (by omega) (pU_f (by omega) (by omega) (Int.not_lt.2 (by assumption)))).symm⟩ (Lr))⟩, ke rfl, ke rfl, ke rfl, ke rfl, trivial⟩
 refine ac ?_
 refine wk6 0 1 4 12 13 47 rfl (Tr.cond rfl (fun h => nomatch h) (fun _ => ?_))
 refine Tr.exit (Fin.then_exit (Fin.then_exit (Fin.block_here ?_)))
 exact Fin.fam_same () trivial ⟨⟨_, rfl, ex_in _ (fact_in ⟨⟨by omega, by omega⟩, trivial, by rw [← hscAc]; exact (su_stopA (by omega) (by omega)).symm⟩ (Lr))⟩, ke rfl, ke rfl, ke rfl, ke rfl, trivial⟩
 refine Tr.ex 12 rfl (fun i1 => Tr.fact 12 rfl fun hci1 => ?_)
 obtain ⟨hci1a, hci1b, hci1c⟩ := hci1
 refine wk5 0 1 4 12 13 rfl (Tr.cutk [0, 1, 4, 12] [(13, ex fun y : Int => fact ((a ≤ y ∧ y ≤ (b - 1)) ∧ True ∧ y.toNat = Go.Sort.scanDown (pD c ((l.set a.toNat (l[pv.toNat]'hpv)).set pv.toNat (l[a.toNat]'hal)).toArray a) ((l.set a.toNat (l[pv.toNat]'hpv)).set pv.toNat (l[a.toNat]'hal)).toArray (i1).toNat ((b - 1)).toNat) (int y))] (True) ?_ (fun h4 => ?_))
 refine Tr.block (Tr.loopw [(0, _), (1, _), (4, _), (12, _)] (kk4 rfl) (fun y : Int => [(13, int y)]) (fun y : Int => (a ≤ y ∧ y ≤ (b - 1)) ∧ Go.Sort.scanDown (pD c ((l.set a.toNat (l[pv.toNat]'hpv)).set pv.toNat (l[a.toNat]'hal)).toArray a) ((l.set a.toNat (l[pv.toNat]'hpv)).set pv.toNat (l[a.toNat]'hal)).toArray (i1).toNat (y).toNat = Go.Sort.scanDown (pD c ((l.set a.toNat (l[pv.toNat]'hpv)).set pv.toNat (l[a.toNat]'hal)).toArray a) ((l.set a.toNat (l[pv.toNat]'hpv)).set pv.toNat (l[a.toNat]'hal)).toArray (i1).toNat ((b - 1)).toNat) (fun y : Int => (y - a).toNat) (b - 1) (⟨⟨by omega, by omega⟩, rfl⟩) ⟨ke rfl, trivial⟩ ?_)
 rintro y ⟨⟨hscBa, hscBb⟩, hscBc⟩
 refine ag ?_ ?_ <;> intro h5 q5
 refine ac ?_
 refine cy h5 rfl (okp_indexSl rfl underlying92 sz96 (vl rfl) (vl rfl) (by omega) (by omega)) (cy h5 rfl (ok_rd 0 rfl (rd_loadA rfl agg96 sz96 (vl rfl) (cells_atG (f := rowF) (fun _ => rfl) (by omega)) rfl)) ?_)
 refine ac ?_
 refine cy h5 rfl (okp_indexSl rfl underlying92 sz96 (vl rfl) (vl rfl) (by omega) (by omega)) (cy h5 rfl (ok_rd 0 rfl (rd_loadA rfl agg96 sz96 (vl rfl) (cells_atG (f := rowF) (fun _ => rfl) (by omega)) rfl)) (cy h5 rfl (ok_callc (_, _) rfl (vl rfl) ⟨ke rfl, ke rfl, trivial⟩) ?_))
 refine ac ?_
 refine wk6 0 1 4 12 13 66 rfl ?_
 refine Tr.cn rfl ?_ ?_ <;> intro h6 q6
 have := h6
 refine a2 ?_
 exact Fin.fam_same (y - 1) ⟨⟨⟨by omega, by omega⟩, by rw [sd_go (by omega) (by omega) (by omega) (pD_t (by omega) (by omega) (Int.not_lt.2 (by assumption)))]; exact hscBc⟩, by omega⟩ (kk5 rfl)
 have := h6
 refine Tr.exit (Fin.then_exit (Fin.then_exit (Fin.block_here ?_)))
 exact Fin.fam_same () trivial ⟨⟨_, rfl, ex_in _ (fact_in ⟨⟨by omega, by omega⟩, trivial, by rw [← hscBc]; exact (sd_stopB (by omega) (pD_f (by omega) (by omega) (by assumption))).symm⟩ (Lr))⟩, ke rfl, ke rfl, ke rfl, ke rfl, trivial⟩
 refine ac ?_
 refine wk6 0 1 4 12 13 66 rfl (Tr.cond rfl (fun h => nomatch h) (fun _ => ?_))
 refine Tr.exit (Fin.then_exit (Fin.then_exit (Fin.block_here ?_)))
 exact Fin.fam_same () trivial ⟨⟨_, rfl, ex_in _ (fact_in ⟨⟨by omega, by omega⟩, trivial, by rw [← hscBc]; exact (sd_stopA (by omega) (by omega)).symm⟩ (Lr))⟩, ke rfl, ke rfl, ke rfl, ke rfl, trivial⟩
 refine Tr.ex 13 rfl (fun j1 => Tr.fact 13 rfl fun hcj1 => ?_)
 obtain ⟨hcj1a, hcj1b, hcj1c⟩ := hcj1
 refine an ?_ ?_ <;> intro h7 q7
 refine Tr.seq (Tr.rx ?_)
 refine ay ?_
 refine xo rfl (fun _ => okp_indexSl rfl underlying92 sz96 (vl rfl) (vl rfl) (by omega) (by omega)) (xrd 0 rfl rfl (rd_loadA rfl agg96 sz96 (vl rfl) (cells_atG (f := rowF) (fun _ => rfl) (by omega)) rfl) ?_)
 refine ay ?_
 refine xo rfl (fun _ => okp_indexSl rfl underlying92 sz96 (vl rfl) (vl rfl) (by omega) (by omega)) (xrd 0 rfl rfl (rd_loadA rfl agg96 sz96 (vl rfl) (cells_atG (f := rowF) (fun _ => rfl) (by omega)) rfl) (xo rfl (fun _ => okp_indexSl rfl underlying92 sz96 (vl rfl) (vl rfl) (by omega) (by omega)) ?_))
 refine Cx.ef0 0 rfl rfl (ef_store rfl rfl (vl rfl) (Va rfl) sz96 rfl (by rw [cells_len (sz := 11) (fun _ => rfl)]; omega) (cells_setG (f := rowF) (fun _ => rfl) (by omega))) ?_
 refine xo rfl (fun _ => okp_indexSl rfl underlying92 sz96 (vl rfl) (vl rfl) (by omega) (by omega)) ?_
 refine Cx.ef0 0 rfl rfl (ef_store rfl rfl (vl rfl) (Va rfl) sz96 rfl (by rw [cells_len (sz := 11) (fun _ => rfl)]; simp only [List.length_set]; omega) (cells_setG (f := rowF) (fun _ => rfl) (by simp only [List.length_set]; omega))) ?_
 refine Cx.nil ⟨by kernel_rfl, ?_⟩
 refine FinX.done al2 (Fin.go (wk1 13 rfl ?_))
 refine ac ?_
 refine Tr.ret (Fin.then_ret (Fin.closeL (PartL c a b pv l) 0 rfl (⟨by simp only [List.length_set], (pa_start h0 hab hal hpv (part_stop hci1c hcj1c (by omega) (by omega)) (by omega) (by omega)).2⟩) (Fin.retY2 [] rfl (RVal.tmp rfl (Lr)) (RVal.tmp rfl (Lr)) ?_)))
 · exact ex_in true (fact_in trivial (Pr.le_of_eq (by rw [(pa_start h0 hab hal hpv (part_stop hci1c hcj1c (by omega) (by omega)) (by omega) (by omega)).1, Int.toNat_of_nonneg (by omega)])))
 refine ac ?_
 refine Tr.seq (Tr.rx ?_)
 refine ay ?_
 refine xo rfl (fun _ => okp_indexSl rfl underlying92 sz96 (vl rfl) (vl rfl) (by omega) (by omega)) (xrd 0 rfl rfl (rd_loadA rfl agg96 sz96 (vl rfl) (cells_atG (f := rowF) (fun _ => rfl) (by omega)) rfl) ?_)
 refine ay ?_
 refine xo rfl (fun _ => okp_indexSl rfl underlying92 sz96 (vl rfl) (vl rfl) (by omega) (by omega)) (xrd 0 rfl rfl (rd_loadA rfl agg96 sz96 (vl rfl) (cells_atG (f := rowF) (fun _ => rfl) (by omega)) rfl) (xo rfl (fun _ => okp_indexSl rfl underlying92 sz96 (vl rfl) (vl rfl) (by omega) (by omega)) ?_))
 refine Cx.ef0 0 rfl rfl (ef_store rfl rfl (vl rfl) (Va rfl) sz96 rfl (by rw [cells_len (sz := 11) (fun _ => rfl)]; omega) (cells_setG (f := rowF) (fun _ => rfl) (by omega))) ?_
 refine xo rfl (fun _ => okp_indexSl rfl underlying92 sz96 (vl rfl) (vl rfl) (by omega) (by omega)) ?_
 refine Cx.ef0 0 rfl rfl (ef_store rfl rfl (vl rfl) (Va rfl) sz96 rfl (by rw [cells_len (sz := 11) (fun _ => rfl)]; simp only [List.length_set]; omega) (cells_setG (f := rowF) (fun _ => rfl) (by simp only [List.length_set]; omega))) ?_
 refine Cx.nil ⟨by kernel_rfl, ?_⟩
 refine FinX.done al2 (Fin.go (wk5 0 1 4 12 13 rfl ?_))
 refine a2 ?_
 refine Tr.seq (Tr.block ?_)
 refine Tr.loopD3V0 [(0, _), (1, _), (4, _)] ⟨ke rfl, ke rfl, ke rfl, trivial⟩ (fun (i : Int) (j : Int) (st : List Fnd) => [(12, int i), (13, int j)]) (fun (i : Int) (j : Int) (st : List Fnd) => Hp M0 w0 S (cellsRes true b0 96 ((st.map rowF).flatten ++ sp.map is) :: extRes M1 w1 :: rs)) (fun (i : Int) (j : Int) (st : List Fnd) => ((a < i ∧ i ≤ b) ∧ a ≤ j ∧ j < b) ∧ st.length = len ∧ PLp c a i j st.toArray = PLp c a (a + 1) (b - 1) ((l.set a.toNat (l[pv.toNat]'hpv)).set pv.toNat (l[a.toNat]'hal)).toArray) (fun (i : Int) (j : Int) (st : List Fnd) => (j - i + 2).toNat) (i1 + 1) (j1 - 1) (_)  (⟨⟨⟨by omega, by omega⟩, by omega, by omega⟩, by simp only [List.length_set]; exact hln, part_go hci1c hcj1c (by omega) (by omega) (by omega) (by omega)⟩) ⟨ke rfl, ke rfl, trivial⟩ (fun _ _ h => h) ?_
 rintro i j st  ⟨⟨⟨hi1, hi2⟩, hj1, hj2⟩, hsl, hso⟩
 refine Tr.block (wk5 0 1 4 12 13 rfl (Tr.cutk [0, 1, 4, 13] [(12, ex fun y : Int => fact ((i ≤ y ∧ y ≤ b) ∧ True ∧ y.toNat = Go.Sort.scanUp (pU c st.toArray a) st.toArray (j).toNat (i).toNat) (int y))] (True) ?_ (fun h8 => ?_)))
 refine Tr.block (Tr.loopw [(0, _), (1, _), (4, _), (13, _)] (kk4 rfl) (fun y : Int => [(12, int y)]) (fun y : Int => (i ≤ y ∧ y ≤ b) ∧ Go.Sort.scanUp (pU c st.toArray a) st.toArray (j).toNat (y).toNat = Go.Sort.scanUp (pU c st.toArray a) st.toArray (j).toNat (i).toNat) (fun y : Int => (b - y).toNat) i (⟨⟨by omega, by omega⟩, rfl⟩) ⟨ke rfl, trivial⟩ ?_)
 rintro y ⟨⟨hscAa, hscAb⟩, hscAc⟩
 refine ag ?_ ?_ <;> intro h9 q9
 refine ac ?_
 refine cy h9 rfl (okp_indexSl rfl underlying92 sz96 (vl rfl) (vl rfl) (by omega) (by omega)) (cy h9 rfl (ok_rd 0 rfl (rd_loadA rfl agg96 sz96 (vl rfl) (cells_atG (f := rowF) (fun _ => rfl) (by omega)) rfl)) ?_)
 refine ac ?_
 refine cy h9 rfl (okp_indexSl rfl underlying92 sz96 (vl rfl) (vl rfl) (by omega) (by omega)) (cy h9 rfl (ok_rd 0 rfl (rd_loadA rfl agg96 sz96 (vl rfl) (cells_atG (f := rowF) (fun _ => rfl) (by omega)) rfl)) (cy h9 rfl (ok_callc (_, _) rfl (vl rfl) ⟨ke rfl, ke rfl, trivial⟩) ?_))
 refine ac ?_
 refine wk6 0 1 4 12 13 120 rfl ?_
 refine Tr.cn rfl ?_ ?_ <;> intro h10 q10
 have := h10
 refine a2 ?_
 exact Fin.fam_same (y + 1) ⟨⟨⟨by omega, by omega⟩, by rw [su_go (by omega) (by omega) (by omega) (pU_t (by omega) (by omega) (by assumption))]; exact hscAc⟩, by omega⟩ (kk5 rfl)
 have := h10
 refine Tr.exit (Fin.then_exit (Fin.then_exit (Fin.block_here ?_)))
 exact Fin.fam_same () trivial ⟨⟨_, rfl, ex_in _ (fact_in ⟨⟨by omega, by omega⟩, trivial, by rw [← hscAc]; exact (su_stopB (by omega) (pU_f (by omega) (by omega) (Int.not_lt.2 (by assumption)))).symm⟩ (Lr))⟩, ke rfl, ke rfl, ke rfl, ke rfl, trivial⟩
 refine ac ?_
 refine wk6 0 1 4 12 13 120 rfl (Tr.cond rfl (fun h => nomatch h) (fun _ => ?_))
 refine Tr.exit (Fin.then_exit (Fin.then_exit (Fin.block_here ?_)))
 exact Fin.fam_same () trivial ⟨⟨_, rfl, ex_in _ (fact_in ⟨⟨by omega, by omega⟩, trivial, by rw [← hscAc]; exact (su_stopA (by omega) (by omega)).symm⟩ (Lr))⟩, ke rfl, ke rfl, ke rfl, ke rfl, trivial⟩
 refine Tr.ex 12 rfl (fun i2 => Tr.fact 12 rfl fun hci2 => ?_)
 obtain ⟨hci2a, hci2b, hci2c⟩ := hci2
 refine wk5 0 1 4 12 13 rfl (Tr.cutk [0, 1, 4, 12] [(13, ex fun y : Int => fact ((a ≤ y ∧ y ≤ j) ∧ True ∧ y.toNat = Go.Sort.scanDown (pD c st.toArray a) st.toArray (i2).toNat (j).toNat) (int y))] (True) ?_ (fun h11 => ?_))
 refine Tr.block (Tr.loopw [(0, _), (1, _), (4, _), (12, _)] (kk4 rfl) (fun y : Int => [(13, int y)]) (fun y : Int => (a ≤ y ∧ y ≤ j) ∧ Go.Sort.scanDown (pD c st.toArray a) st.toArray (i2).toNat (y).toNat = Go.Sort.scanDown (pD c st.toArray a) st.toArray (i2).toNat (j).toNat) (fun y : Int => (y - a).toNat) j (⟨⟨by omega, by omega⟩, rfl⟩) ⟨ke rfl, trivial⟩ ?_)
 rintro y ⟨⟨hscBa, hscBb⟩, hscBc⟩
 refine ag ?_ ?_ <;> intro h12 q12
 refine ac ?_
 refine cy h12 rfl (okp_indexSl rfl underlying92 sz96 (vl rfl) (vl rfl) (by omega) (by omega)) (cy h12 rfl (ok_rd 0 rfl (rd_loadA rfl agg96 sz96 (vl rfl) (cells_atG (f := rowF) (fun _ => rfl) (by omega)) rfl)) ?_)
 refine ac ?_
 refine cy h12 rfl (okp_indexSl rfl underlying92 sz96 (vl rfl) (vl rfl) (by omega) (by omega)) (cy h12 rfl (ok_rd 0 rfl (rd_loadA rfl agg96 sz96 (vl rfl) (cells_atG (f := rowF) (fun _ => rfl) (by omega)) rfl)) (cy h12 rfl (ok_callc (_, _) rfl (vl rfl) ⟨ke rfl, ke rfl, trivial⟩) ?_))
 refine ac ?_
 refine wk6 0 1 4 12 13 139 rfl ?_
 refine Tr.cn rfl ?_ ?_ <;> intro h13 q13
 have := h13
 refine a2 ?_
 exact Fin.fam_same (y - 1) ⟨⟨⟨by omega, by omega⟩, by rw [sd_go (by omega) (by omega) (by omega) (pD_t (by omega) (by omega) (Int.not_lt.2 (by assumption)))]; exact hscBc⟩, by omega⟩ (kk5 rfl)
 have := h13
 refine Tr.exit (Fin.then_exit (Fin.then_exit (Fin.block_here ?_)))
 exact Fin.fam_same () trivial ⟨⟨_, rfl, ex_in _ (fact_in ⟨⟨by omega, by omega⟩, trivial, by rw [← hscBc]; exact (sd_stopB (by omega) (pD_f (by omega) (by omega) (by assumption))).symm⟩ (Lr))⟩, ke rfl, ke rfl, ke rfl, ke rfl, trivial⟩
 refine ac ?_
 refine wk6 0 1 4 12 13 139 rfl (Tr.cond rfl (fun h => nomatch h) (fun _ => ?_))
 refine Tr.exit (Fin.then_exit (Fin.then_exit (Fin.block_here ?_)))
 exact Fin.fam_same () trivial ⟨⟨_, rfl, ex_in _ (fact_in ⟨⟨by omega, by omega⟩, trivial, by rw [← hscBc]; exact (sd_stopA (by omega) (by omega)).symm⟩ (Lr))⟩, ke rfl, ke rfl, ke rfl, ke rfl, trivial⟩
 refine Tr.ex 13 rfl (fun j2 => Tr.fact 13 rfl fun hcj2 => ?_)
 obtain ⟨hcj2a, hcj2b, hcj2c⟩ := hcj2
 refine an ?_ ?_ <;> intro h14 q14
 refine ac ?_
 refine Tr.seq (Tr.rx ?_)
 refine ay ?_
 refine xo rfl (fun _ => okp_indexSl rfl underlying92 sz96 (vl rfl) (vl rfl) (by omega) (by omega)) (xrd 0 rfl rfl (rd_loadA rfl agg96 sz96 (vl rfl) (cells_atG (f := rowF) (fun _ => rfl) (by omega)) rfl) ?_)
 refine ay ?_
 refine xo rfl (fun _ => okp_indexSl rfl underlying92 sz96 (vl rfl) (vl rfl) (by omega) (by omega)) (xrd 0 rfl rfl (rd_loadA rfl agg96 sz96 (vl rfl) (cells_atG (f := rowF) (fun _ => rfl) (by omega)) rfl) (xo rfl (fun _ => okp_indexSl rfl underlying92 sz96 (vl rfl) (vl rfl) (by omega) (by omega)) ?_))
 refine Cx.ef0 0 rfl rfl (ef_store rfl rfl (vl rfl) (Va rfl) sz96 rfl (by rw [cells_len (sz := 11) (fun _ => rfl)]; omega) (cells_setG (f := rowF) (fun _ => rfl) (by omega))) ?_
 refine xo rfl (fun _ => okp_indexSl rfl underlying92 sz96 (vl rfl) (vl rfl) (by omega) (by omega)) ?_
 refine Cx.ef0 0 rfl rfl (ef_store rfl rfl (vl rfl) (Va rfl) sz96 rfl (by rw [cells_len (sz := 11) (fun _ => rfl)]; simp only [List.length_set]; omega) (cells_setG (f := rowF) (fun _ => rfl) (by simp only [List.length_set]; omega))) ?_
 refine Cx.nil ⟨by kernel_rfl, ?_⟩
 refine FinX.done al2 (Fin.go (wk1 13 rfl ?_))
 refine ac ?_
 refine Tr.ret ?_
 refine Fin.closeL (PartL c a b pv l) 0 rfl (⟨by simp only [List.length_set]; omega, (pa_start h0 hab hal hpv (hso.symm.trans (part_stop hci2c hcj2c (by omega) (by omega))) (by omega) (by omega)).2⟩) ?_
 refine Fin.retY2 [] rfl (RVal.tmp rfl (Lr)) (RVal.tmp rfl (Lr)) ?_
 · exact ex_in false (fact_in trivial (Pr.le_of_eq (by rw [(pa_start h0 hab hal hpv (hso.symm.trans (part_stop hci2c hcj2c (by omega) (by omega))) (by omega) (by omega)).1, Int.toNat_of_nonneg (by omega)])))
 refine ac ?_
 refine Tr.seq (Tr.rx ?_)
 refine ay ?_
 refine xo rfl (fun _ => okp_indexSl rfl underlying92 sz96 (vl rfl) (vl rfl) (by omega) (by omega)) (xrd 0 rfl rfl (rd_loadA rfl agg96 sz96 (vl rfl) (cells_atG (f := rowF) (fun _ => rfl) (by omega)) rfl) ?_)
 refine ay ?_
 refine xo rfl (fun _ => okp_indexSl rfl underlying92 sz96 (vl rfl) (vl rfl) (by omega) (by omega)) (xrd 0 rfl rfl (rd_loadA rfl agg96 sz96 (vl rfl) (cells_atG (f := rowF) (fun _ => rfl) (by omega)) rfl) (xo rfl (fun _ => okp_indexSl rfl underlying92 sz96 (vl rfl) (vl rfl) (by omega) (by omega)) ?_))
 refine Cx.ef0 0 rfl rfl (ef_store rfl rfl (vl rfl) (Va rfl) sz96 rfl (by rw [cells_len (sz := 11) (fun _ => rfl)]; omega) (cells_setG (f := rowF) (fun _ => rfl) (by omega))) ?_
 refine xo rfl (fun _ => okp_indexSl rfl underlying92 sz96 (vl rfl) (vl rfl) (by omega) (by omega)) ?_
 refine Cx.ef0 0 rfl rfl (ef_store rfl rfl (vl rfl) (Va rfl) sz96 rfl (by rw [cells_len (sz := 11) (fun _ => rfl)]; simp only [List.length_set]; omega) (cells_setG (f := rowF) (fun _ => rfl) (by simp only [List.length_set]; omega))) ?_
 refine Cx.nil ⟨by kernel_rfl, ?_⟩
 refine FinX.done al2 (Fin.go (wk5 0 1 4 12 13 rfl ?_))
 refine a2 ?_
 exact Fin.famD3V0 (i2 + 1) (j2 - 1) (_)  (⟨⟨⟨⟨by omega, by omega⟩, by omega, by omega⟩, by simp only [List.length_set]; exact hsl, (part_go hci2c hcj2c (by omega) (by omega) (by omega) (by omega)).trans hso⟩, by omega⟩) ⟨ke rfl, ke rfl, ke rfl, ke rfl, ke rfl, trivial⟩ (fun _ _ h => h)
theorem w_sins5G {l : List Fnd} {c : Fnd × Fnd → Int} {b0 cap len : Nat} {sp : List Value} {a b : Int} (hln : l.length = len) (hll : len ≤ 1000000) (hw : Go.Sort.SWO (ltc c)) (h0 : 0 ≤ a) (hab : a < b) (hb : b ≤ len) (hb5 : b < 50) : FunM prog 275 [is (.slice (some ⟨b0, 0, none⟩) len cap), int a, int b, clo prog (fun x : Fnd × Fnd => [agg (rowF x.1), agg (rowF x.2)]) (fun x => int (c x))] (ex fun z : Bool => fact (z = true → Go.Sort.SortedIn (ltc c) a.toNat b.toNat l.toArray) (bool z)) (cellsRes true b0 96 ((l.map rowF).flatten ++ sp.map is)) (fun _ => cellsRes true b0 96 ((l.map rowF).flatten ++ sp.map is)) := by
 refine FunM.of func275 rfl rfl (by exact Nb rfl) fun M0 w0 S rs M1 w1 => ?_
 refine a3 ?_
 refine Tr.block (Tr.loopD2V0 [(0, _), (1, _), (2, _), (3, _)] ⟨ke rfl, ke rfl, ke rfl, ke rfl, trivial⟩ (fun (i : Int) (j : Int) => [(9, int i), (10, int j)]) (fun (i : Int) (j : Int) => Hp M0 w0 S (cellsRes true b0 96 ((l.map rowF).flatten ++ sp.map is) :: extRes M1 w1 :: rs)) (fun (i : Int) (j : Int) => (j = 0 ∧ a < i ∧ i ≤ b) ∧ Adj c a i l) (fun (i : Int) (j : Int) => (5 - j).toNat) (a + 1) (0)  (⟨⟨rfl, by omega, by omega⟩, Adj.start a l h0⟩) ⟨ke rfl, ke rfl, trivial⟩ (fun _ _ h => h) ?_)
 rintro i j  ⟨⟨hj0, hi1, hi2⟩, hadj⟩
 refine an ?_ ?_ <;> intro h1 q1
 skip
 refine ac ?_
 refine Tr.seq (Tr.block (Tr.seq (Tr.block (Tr.loopw [(0, _), (1, _), (2, _), (3, _), (10, _)] (kk5 rfl) (fun i2 : Int => [(9, int i2)]) (fun i2 : Int => (a < i2 ∧ i2 ≤ b) ∧ Adj c a i2 l) (fun i2 : Int => (b - i2).toNat) i (⟨⟨hi1, hi2⟩, hadj⟩) ⟨ke rfl, trivial⟩ ?_))))
 rintro i2 ⟨⟨hi3, hi4⟩, hadj2⟩
 refine ag ?_ ?_ <;> intro h2 q2
 refine ac ?_
 refine cy h2 rfl (okp_indexSl rfl underlying92 sz96 (vl rfl) (vl rfl) (by omega) (by omega)) (cy h2 rfl (ok_rd 0 rfl (rd_loadA rfl agg96 sz96 (vl rfl) (cells_atG (f := rowF) (fun _ => rfl) (by omega)) rfl)) ?_)
 refine ac ?_
 refine cy h2 rfl (okp_indexSl rfl underlying92 sz96 (vl rfl) (vl rfl) (by omega) (by omega)) (cy h2 rfl (ok_rd 0 rfl (rd_loadA rfl agg96 sz96 (vl rfl) (cells_atG (f := rowF) (fun _ => rfl) (by omega)) rfl)) (cy h2 rfl (ok_callc (_, _) rfl (vl rfl) ⟨ke rfl, ke rfl, trivial⟩) ?_))
 refine ac ?_
 refine wk7 0 1 2 3 9 10 36 rfl ?_
 refine Tr.cn rfl ?_ ?_ <;> intro h3 q3
 have := h3
 refine a2 ?_
 exact Fin.fam_same (i2 + 1) ⟨⟨⟨by omega, by omega⟩, hadj2.go h0 (by omega) rfl (by omega) (by omega) (by assumption)⟩, by omega⟩ (kk6 rfl)
 have := h3
 refine ac ?_
 refine an ?_ ?_ <;> intro h4 q4
 refine ac ?_
 refine Tr.ret (Fin.then_ret (Fin.block_ret (Fin.then_ret (Fin.then_ret (Fin.block_ret (Fin.then_ret (Fin.retM1 rfl rfl ?_ (fun _ _ _ _ => rfl))))))))
 · exact ex_in true (fact_in (fun _ => by rw [show b = i2 by omega]; exact hadj2.sorted hw) (Lr))
 refine a2 ?_
 refine wk7 0 1 2 3 9 10 45 rfl ?_
 refine Tr.cn rfl ?_ ?_ <;> intro h5 q5
 refine ac ?_
 refine Tr.ret (Fin.then_ret (Fin.block_ret (Fin.then_ret (Fin.then_ret (Fin.block_ret (Fin.then_ret (Fin.retM1 rfl rfl ?_ (fun _ _ _ _ => rfl))))))))
 · exact ex_in false (fact_in (fun h => nomatch h) (Lr))
 exfalso; omega
 refine ac ?_
 refine wk7 0 1 2 3 9 10 36 rfl ?_
 refine ac ?_
 refine an ?_ ?_ <;> intro h6 q6
 refine ac ?_
 refine Tr.ret (Fin.then_ret (Fin.block_ret (Fin.then_ret (Fin.then_ret (Fin.block_ret (Fin.then_ret (Fin.retM1 rfl rfl ?_ (fun _ _ _ _ => rfl))))))))
 · exact ex_in true (fact_in (fun _ => by rw [show b = i2 by omega]; exact hadj2.sorted hw) (Lr))
 refine a2 ?_
 refine wk7 0 1 2 3 9 10 45 rfl ?_
 refine Tr.cn rfl ?_ ?_ <;> intro h7 q7
 refine ac ?_
 refine Tr.ret (Fin.then_ret (Fin.block_ret (Fin.then_ret (Fin.then_ret (Fin.block_ret (Fin.then_ret (Fin.retM1 rfl rfl ?_ (fun _ _ _ _ => rfl))))))))
 · exact ex_in false (fact_in (fun h => nomatch h) (Lr))
 exfalso; omega
 have hj5 : ¬ j < 5 := of_decide_eq_false h1
 exfalso; omega
theorem w_sord2G {sb : Nat} {l : List Fnd} {c : Fnd × Fnd → Int} {b0 cap len : Nat} {sp : List Value} {a b : Int} (hln : l.length = len) (hll : len ≤ 1000000) (h0 : 0 ≤ a) (ha : a < len) (h1 : 0 ≤ b) (hb : b < len) : FunR prog 302 [is (.slice (some ⟨b0, 0, none⟩) len cap), int a, int b, is (.pointer (some ⟨sb, 0, none⟩)), clo prog (fun x : Fnd × Fnd => [agg (rowF x.1), agg (rowF x.2)]) (fun x => int (c x))] (ex fun z : Int × Int => fact ((z.1 = a ∧ z.2 = b) ∨ (z.1 = b ∧ z.2 = a)) (tup [int z.1, int z.2])) (cellsRes true sb 3 [anyK .i64]) (cellsRes true sb 3 [anyK .i64]) (cellsRes true b0 96 ((l.map rowF).flatten ++ sp.map is)) := by
 refine FunR.of func302 rfl rfl (by exact Nb rfl) fun M0 w0 S rs M1 w1 => ?_
 refine a2 ?_
 refine co rfl (okp_indexSl rfl underlying92 sz96 (vl rfl) (vl rfl) (by omega) (by omega)) (co rfl (ok_rd 2 rfl (rd_loadA rfl agg96 sz96 (vl rfl) (cells_atG (f := rowF) (fun _ => rfl) (by omega)) rfl)) ?_)
 refine ac ?_
 refine co rfl (okp_indexSl rfl underlying92 sz96 (vl rfl) (vl rfl) (by omega) (by omega)) (co rfl (ok_rd 2 rfl (rd_loadA rfl agg96 sz96 (vl rfl) (cells_atG (f := rowF) (fun _ => rfl) (by omega)) rfl)) (co rfl (ok_callc (_, _) rfl (vl rfl) ⟨ke rfl, ke rfl, trivial⟩) ?_))
 refine an ?_ ?_ <;> intro h1 q1
 refine ap ?_
 refine tp rfl (ok_addK rfl (vl rfl) (VL.le (vl rfl) (is_anyK _ _))) ?_
 refine ap ?_
 refine wk2 1 2 rfl ?_
 refine ac ?_
 refine Tr.ret (Fin.then_ret (Fin.retY2 [] rfl (RVal.tmp rfl (Lr)) (RVal.tmp rfl (Lr)) ?_))
 · exact ex_in (b, a) (fact_in (.inr ⟨rfl, rfl⟩) (Lr))
 refine a2 ?_
 refine wk2 10 11 rfl (Tr.ret (Fin.retY2 [] rfl (RVal.tmp rfl (Lr)) (RVal.tmp rfl (Lr)) ?_))
 · exact ex_in (a, b) (fact_in (.inl ⟨rfl, rfl⟩) (Lr))
theorem w_smedG {sb : Nat} {l : List Fnd} {c : Fnd × Fnd → Int} {b0 cap len : Nat} {sp : List Value} {a b d : Int} (hln : l.length = len) (hll : len ≤ 1000000) (h0 : 0 ≤ a) (ha : a < len) (h1 : 0 ≤ b) (hb : b < len) (h2 : 0 ≤ d) (hd : d < len) : FunR prog 298 [is (.slice (some ⟨b0, 0, none⟩) len cap), int a, int b, int d, is (.pointer (some ⟨sb, 0, none⟩)), clo prog (fun x : Fnd × Fnd => [agg (rowF x.1), agg (rowF x.2)]) (fun x => int (c x))] (ex fun z : Int => fact (z = a ∨ z = b ∨ z = d) (int z)) (cellsRes true sb 3 [anyK .i64]) (cellsRes true sb 3 [anyK .i64]) (cellsRes true b0 96 ((l.map rowF).flatten ++ sp.map is)) := by
 refine FunR.of func298 rfl rfl (by exact Nb rfl) fun M0 w0 S rs M1 w1 => ?_
 refine ac ?_
 refine ap ?_
 refine TO.callR 0 2 rfl rfl (by decide) rfl rfl (by decide) rfl (w_sord2G (by omega) (by omega) (by omega) (by omega) (by omega) (by omega)) ⟨ke rfl, ke rfl, ke rfl, ke rfl, ke rfl, trivial⟩ ?_
 refine TO.ex 19 rfl (fun z1 => TO.fact 19 rfl fun hz1 => ?_)
 refine ap ?_
 refine ap ?_
 refine TO.callR 0 2 rfl rfl (by decide) rfl rfl (by decide) rfl (w_sord2G (by omega) (by omega) (by omega) (by omega) (by omega) (by omega)) ⟨ke rfl, ke rfl, ke rfl, ke rfl, ke rfl, trivial⟩ ?_
 refine TO.ex 28 rfl (fun z2 => TO.fact 28 rfl fun hz2 => ?_)
 refine ap ?_
 refine wk5 0 1 2 4 5 rfl ?_
 refine ap ?_
 refine TO.callR 0 2 rfl rfl (by decide) rfl rfl (by decide) rfl (w_sord2G (by omega) (by omega) (by omega) (by omega) (by omega) (by omega)) ⟨ke rfl, ke rfl, ke rfl, ke rfl, ke rfl, trivial⟩ ?_
 refine TO.ex 37 rfl (fun z3 => TO.fact 37 rfl fun hz3 => ?_)
 refine ap ?_
 refine wk1 2 rfl ?_
 refine ac ?_
 refine Tr.ret (Fin.retM1 rfl rfl ?_ (fun _ _ _ _ => rfl))
 · exact ex_in _ (fact_in (by omega) (Lr))
theorem w_spivG {l : List Fnd} {c : Fnd × Fnd → Int} {b0 cap len : Nat} {sp : List Value} {a b : Int} (hln : l.length = len) (hll : len ≤ 1000000) (h0 : 0 ≤ a) (hab : a < b) (hb : b ≤ len) (hb5 : b < 50) : FunM prog 273 [is (.slice (some ⟨b0, 0, none⟩) len cap), int a, int b, clo prog (fun x : Fnd × Fnd => [agg (rowF x.1), agg (rowF x.2)]) (fun x => int (c x))] (ex fun z : Int × Int => fact (a ≤ z.1 ∧ z.1 < b) (tup [int z.1, int z.2])) (cellsRes true b0 96 ((l.map rowF).flatten ++ sp.map is)) (fun _ => cellsRes true b0 96 ((l.map rowF).flatten ++ sp.map is)) := by
 refine FunM.of func273 rfl rfl (by exact Nb rfl) fun M0 w0 S rs M1 w1 => ?_
 have hq := quart (n := b - a) (by omega) (by omega)
 obtain ⟨hq1, hq2, hq3⟩ := hq
 refine a2 ?_
 refine Tr.seq (Tr.regT ?_)
 refine Tl rfl rfl rfl rfl z3 zo3 (fun b1 => ?_)
 refine ap ?_
 refine ac ?_
 refine co rfl (ok_quo rfl (vl rfl) (vl rfl) (by omega)) ?_
 refine co rfl (ok_mul rfl (vl rfl) (vl rfl) ?hin) ?_; case hin => unfold InI; omega
 refine ac ?_
 refine wk6 0 1 3 10 11 12 rfl ?_
 refine ac ?_
 refine co rfl (ok_quo rfl (vl rfl) (vl rfl) (by omega)) ?_
 refine co rfl (ok_mul rfl (vl rfl) (vl rfl) ?hin) ?_; case hin => unfold InI; omega
 refine a2 ?_
 refine co rfl (ok_quo rfl (vl rfl) (vl rfl) (by omega)) ?_
 refine co rfl (ok_mul rfl (vl rfl) (vl rfl) ?hin) ?_; case hin => unfold InI; omega
 refine ac ?_
 refine wk7 0 3 10 11 12 13 14 rfl ?_
 refine an ?_ ?_ <;> intro h1 q1
 refine an ?_ ?_ <;> intro h2 q2
 exfalso; omega
 refine ac ?_
 refine Tr.leC 0 [anyK .i64] rfl ⟨is_anyK _ _, trivial⟩ ?_
 refine ap ?_
 refine TO.callR 0 1 rfl rfl (by decide) rfl rfl (by decide) rfl (w_smedG (by omega) (by omega) (by omega) (by omega) (by omega) (by omega) (by omega) (by omega)) ⟨ke rfl, ke rfl, ke rfl, ke rfl, ke rfl, ke rfl, trivial⟩ ?_
 refine TO.ex 54 rfl (fun z1 => TO.fact 54 rfl fun hz1 => ?_)
 refine ap ?_
 refine wk2 11 13 rfl ?_
 refine ac ?_
 refine Tr.drop 0 (Tr.block (Tr.seq (Tr.ex 55 rfl fun sw => ?_)))
 refine an ?_ ?_ <;> intro h3 q3
 refine ac ?_
 refine Tr.ret (Fin.block_ret (Fin.retY2 [] rfl (RVal.tmp rfl (Lr)) (RVal.tmp rfl (Lr)) ?_))
 · exact ex_in (_, _) (fact_in ⟨by omega, by omega⟩ (Lr))
 refine an ?_ ?_ <;> intro h4 q4
 refine ac ?_
 refine Tr.ret (Fin.block_ret (Fin.retY2 [] rfl (RVal.tmp rfl (Lr)) (RVal.tmp rfl (Lr)) ?_))
 · exact ex_in (_, _) (fact_in ⟨by omega, by omega⟩ (Lr))
 refine ac ?_
 refine Tr.ret (Fin.block_ret (Fin.retY2 [] rfl (RVal.tmp rfl (Lr)) (RVal.tmp rfl (Lr)) ?_))
 · exact ex_in (_, _) (fact_in ⟨by omega, by omega⟩ (Lr))
 refine ac ?_
 refine Tr.seq (Tr.leC 0 [anyK .i64] rfl ⟨is_anyK _ _, trivial⟩ ?_)
 refine ac ?_
 refine Tr.drop 0 (Tr.block (Tr.seq (Tr.ex 55 rfl fun sw => ?_)))
 refine an ?_ ?_ <;> intro h5 q5
 refine ac ?_
 refine wk2 8 9 rfl (Tr.ret (Fin.block_ret (Fin.retY2 [] rfl (RVal.tmp rfl (Lr)) (RVal.tmp rfl (Lr)) ?_)))
 · exact ex_in (_, _) (fact_in ⟨by omega, by omega⟩ (Lr))
 refine ac ?_
 refine wk2 13 60 rfl ?_
 refine Tr.cn rfl ?_ ?_ <;> intro h6 q6
 refine ac ?_
 refine Tr.ret (Fin.block_ret (Fin.retY2 [] rfl (RVal.tmp rfl (Lr)) (RVal.tmp rfl (Lr)) ?_))
 · exact ex_in (_, _) (fact_in ⟨by omega, by omega⟩ (Lr))
 refine ac ?_
 refine Tr.ret (Fin.block_ret (Fin.retY2 [] rfl (RVal.tmp rfl (Lr)) (RVal.tmp rfl (Lr)) ?_))
 · exact ex_in (_, _) (fact_in ⟨by omega, by omega⟩ (Lr))
theorem w_sbrkG {l : List Fnd} {c : Fnd × Fnd → Int} {b0 cap len : Nat} {sp : List Value} {a b : Int} (hln : l.length = len) (hll : len ≤ 1000000) (h0 : 0 ≤ a) (hab : a ≤ b) (hb : b ≤ len) (hb5 : b < 50) : FunM prog 272 [is (.slice (some ⟨b0, 0, none⟩) len cap), int a, int b, clo prog (fun x : Fnd × Fnd => [agg (rowF x.1), agg (rowF x.2)]) (fun x => int (c x))] (unit_) (cellsRes true b0 96 ((l.map rowF).flatten ++ sp.map is)) (fun _ => relRes b0 96 rowF (PermL a b l) (sp.map is)) := by
 refine FunM.of func272 rfl rfl (by exact Nb rfl) fun M0 w0 S rs M1 w1 => ?_
 have hq := quart (n := b - a) (by omega) (by omega)
 obtain ⟨hq1, hq2, hq3⟩ := hq
 refine ac ?_
 refine an ?_ ?_ <;> intro h1 q1
 refine ap ?_
 refine tp rfl (ok_conv rfl underlying3 underlying294 (vl rfl)) ?_
 refine Tl rfl rfl rfl rfl z294 zo294 (fun b1 => ?_)
 refine ap ?_
 refine Tr.seq (Tr.leC 0 [anyK .u64] rfl ⟨is_anyK _ _, trivial⟩ ?_)
 refine ap ?_
 refine tp rfl (kc1 (w_npow (by omega) (by omega)) rfl rfl) ?_
 refine TO.ex 21 rfl (fun md => TO.fact 21 rfl fun hmd => ?_)
 obtain ⟨hmd1, hmd2⟩ := hmd
 have hwm : IntKind.u64.wrap (md - 1) = md - 1 := IntWalk.u64_in _ ⟨by omega, by omega⟩
 refine ap ?_
 refine ac ?_
 refine co rfl (ok_quo rfl (vl rfl) (vl rfl) (by omega)) ?_
 refine co rfl (ok_mul rfl (vl rfl) (vl rfl) ?hin) ?_; case hin => unfold InI; omega
 refine ac ?_
 refine wk6 0 1 8 9 10 11 rfl (Tr.block (Tr.loopD2V0 [(0, _), (1, _), (8, _), (9, _), (10, _)] ⟨ke rfl, ke rfl, ke rfl, ke rfl, ke rfl, trivial⟩ (fun (i : Int) (st : List Fnd) => [(11, int i)]) (fun (i : Int) (st : List Fnd) => Hp M0 w0 S (cellsRes true b1 294 [anyK .u64] :: cellsRes true b0 96 ((st.map rowF).flatten ++ sp.map is) :: extRes M1 w1 :: rs)) (fun (i : Int) (st : List Fnd) => (a ≤ i ∧ i ≤ b) ∧ st.length = len ∧ PermL a b l st) (fun (i : Int) (st : List Fnd) => (b - i).toNat) (a + IntKind.i64.wrap ((b - a).tdiv 4) * 2 - 1) (l)  (⟨⟨by omega, by omega⟩, by omega, PermL.refl _ _ _⟩) ⟨ke rfl, trivial⟩ (fun _ _ h => h) ?_))
 rintro i st  ⟨⟨hi1, hi2⟩, hsl, hso⟩
 refine ac ?_
 refine co rfl (ok_quo rfl (vl rfl) (vl rfl) (by omega)) ?_
 refine co rfl (ok_mul rfl (vl rfl) (vl rfl) ?hin) ?_; case hin => unfold InI; omega
 refine ac ?_
 refine wk7 0 1 8 9 10 11 35 rfl ?_
 refine Tr.cn rfl ?_ ?_ <;> intro h2 q2
 have := h2
 refine ac ?_
 refine Tr.seq (Tr.block (Tr.seq (Tr.regT (TO.efc 0 rfl rfl (by decide) (ef_callc rfl rfl (by decide) rfl (w_xnext) ⟨ke rfl, trivial⟩) ?_))))
 refine ap ?_
 refine tp rfl (ok_andle rfl (vl rfl) (vl rfl) (by omega) (by omega)) ?_
 
 refine TO.ex 41 rfl (fun z1 => TO.fact 41 rfl fun hz1 => ?_)
 refine tp rfl (ok_convI rfl underlying251 underlying3 (vl rfl) (by unfold InI; omega)) ?_
 refine ap ?_
 refine Tr.cutD1V0 [(0, _), (1, _), (8, _), (9, _), (10, _), (11, _)] ⟨ke rfl, ke rfl, ke rfl, ke rfl, ke rfl, ke rfl, trivial⟩ (fun (ot : Int) => [(12, int ot)]) (fun (ot : Int) => Hp M0 w0 S (cellsRes true b1 294 [anyK .u64] :: cellsRes true b0 96 ((st.map rowF).flatten ++ sp.map is) :: extRes M1 w1 :: rs)) (fun (ot : Int) => 0 ≤ ot ∧ ot < b - a) ?_ ?_
 refine ac ?_
 refine wk8 0 1 8 9 10 11 12 45 rfl ?_
 refine Tr.cn rfl ?_ ?_ <;> intro h3 q3
 refine ac ?_
 exact Fin.famD1V0 (_)  (⟨by omega, by omega⟩) ⟨ke rfl, ke rfl, ke rfl, ke rfl, ke rfl, ke rfl, ke rfl, trivial⟩ (fun _ _ h => h)
 refine Tr.skip (Fin.famD1V0 (_)  (⟨by omega, by omega⟩) ⟨ke rfl, ke rfl, ke rfl, ke rfl, ke rfl, ke rfl, ke rfl, trivial⟩ (fun _ _ h => h))
 rintro ot  ⟨hot1, hot2⟩
 refine Tr.rx ?_
 refine ay ?_
 refine xo rfl (fun _ => okp_indexSl rfl underlying92 sz96 (vl rfl) (vl rfl) (by omega) (by omega)) (xrd 1 rfl rfl (rd_loadA rfl agg96 sz96 (vl rfl) (cells_atG (f := rowF) (fun _ => rfl) (by omega)) rfl) ?_)
 refine ay ?_
 refine xo rfl (fun _ => okp_indexSl rfl underlying92 sz96 (vl rfl) (vl rfl) (by omega) (by omega)) (xrd 1 rfl rfl (rd_loadA rfl agg96 sz96 (vl rfl) (cells_atG (f := rowF) (fun _ => rfl) (by omega)) rfl) (xo rfl (fun _ => okp_indexSl rfl underlying92 sz96 (vl rfl) (vl rfl) (by omega) (by omega)) ?_))
 refine Cx.ef0 1 rfl rfl (ef_store rfl rfl (vl rfl) (Va rfl) sz96 rfl (by rw [cells_len (sz := 11) (fun _ => rfl)]; omega) (cells_setG (f := rowF) (fun _ => rfl) (by omega))) ?_
 refine xo rfl (fun _ => okp_indexSl rfl underlying92 sz96 (vl rfl) (vl rfl) (by omega) (by omega)) ?_
 refine Cx.ef0 1 rfl rfl (ef_store rfl rfl (vl rfl) (Va rfl) sz96 rfl (by rw [cells_len (sz := 11) (fun _ => rfl)]; simp only [List.length_set]; omega) (cells_setG (f := rowF) (fun _ => rfl) (by simp only [List.length_set]; omega))) ?_
 refine Cx.nil ⟨by kernel_rfl, ?_⟩
 refine FinX.done al3 ?_
 refine ac ?_
 refine wk6 0 1 8 9 10 11 rfl ?_
 refine ac ?_
 exact Fin.famD2V0 (i + 1) (_)  (⟨⟨⟨by omega, by omega⟩, by simp only [List.length_set]; exact hsl, hso.swap (by omega) (by omega) (by omega) (by omega) (by omega) (by omega) (by omega)⟩, by omega⟩) ⟨ke rfl, ke rfl, ke rfl, ke rfl, ke rfl, ke rfl, trivial⟩ (fun _ _ h => h)
 have := h2
 refine Tr.exit (Fin.then_exit (Fin.then_exit (Fin.block_here (Fin.closeL (PermL a b l) 1 rfl (by exact hso) ?_))))
 refine Fin.drop 0 (Fin.retM0 rfl)
 refine Tr.skip (Fin.closeL (PermL a b l) 0 rfl (by exact PermL.refl _ _ _) ?_)
 exact Fin.retM0 rfl
theorem w_spdq0G {l : List Fnd} {c : Fnd × Fnd → Int} {b0 cap len : Nat} {sp : List Value} {a b lim : Int} (hln : l.length = len) (hll : len ≤ 1000000) (hw : Go.Sort.SWO (ltc c)) (hc5 : len < 50) (hB : Go.Sort.Below (ltc c) a.toNat b.toNat l.toArray) (h0 : 0 ≤ a) (hab : a ≤ b) (hb : b ≤ len) (hl0 : 0 ≤ lim) (hl1 : lim ≤ 100) (m : Nat) (hm : (b - a).toNat < m) (ih : ∀ {l : List Fnd} {a b lim : Int} {sp : List Value}, l.length = len → Go.Sort.Below (ltc c) a.toNat b.toNat l.toArray → 0 ≤ a → a ≤ b → b ≤ len → 0 ≤ lim → lim ≤ 100 → (b - a).toNat + 1 < m → FunM prog 227 [is (.slice (some ⟨b0, 0, none⟩) len cap), int a, int b, int lim, clo prog (fun x : Fnd × Fnd => [agg (rowF x.1), agg (rowF x.2)]) (fun x => int (c x))] (unit_) (cellsRes true b0 96 ((l.map rowF).flatten ++ sp.map is)) (fun _ => relRes b0 96 rowF (SortL c a b l) (sp.map is)))  : FunM prog 227 [is (.slice (some ⟨b0, 0, none⟩) len cap), int a, int b, int lim, clo prog (fun x : Fnd × Fnd => [agg (rowF x.1), agg (rowF x.2)]) (fun x => int (c x))] (unit_) (cellsRes true b0 96 ((l.map rowF).flatten ++ sp.map is)) (fun _ => relRes b0 96 rowF (SortL c a b l) (sp.map is)) := by
 refine FunM.of func227 rfl rfl (by exact Nb rfl) fun M0 w0 S rs M1 w1 => ?_
 have hls : b.toNat ≤ l.toArray.size := by simp only [List.size_toArray]; omega
 refine a2 ?_
 refine Tr.block (Tr.loopD4V0 [(0, _), (4, _)] ⟨ke rfl, ke rfl, trivial⟩ (fun (a1 : Int) (b1 : Int) (p : Int × Bool × Bool) (st : List Fnd) => [(1, int a1), (2, int b1), (3, int p.1), (10, bool p.2.1), (11, bool p.2.2)]) (fun (a1 : Int) (b1 : Int) (p : Int × Bool × Bool) (st : List Fnd) => Hp M0 w0 S (cellsRes true b0 96 ((st.map rowF).flatten ++ sp.map is) :: extRes M1 w1 :: rs)) (fun (a1 : Int) (b1 : Int) (p : Int × Bool × Bool) (st : List Fnd) => ((a ≤ a1 ∧ a1 ≤ b1 ∧ b1 ≤ b) ∧ 0 ≤ p.1 ∧ p.1 ≤ 100) ∧ st.length = len ∧ PS (ltc c) a.toNat b.toNat a1.toNat b1.toNat l.toArray st.toArray) (fun (a1 : Int) (b1 : Int) (p : Int × Bool × Bool) (st : List Fnd) => (b1 - a1).toNat) (a) (b) ((lim, (true, true))) (l)  (⟨⟨⟨by omega, hab, by omega⟩, hl0, hl1⟩, hln, PS.init (by omega) hB⟩) ⟨ke rfl, ke rfl, ke rfl, ke rfl, ke rfl, trivial⟩ (fun _ _ h => h) ?_)
 rintro a1 b1 p st  ⟨⟨⟨ha1, ha2, ha3⟩, hpl, hpl2⟩, hsl, hps⟩
 refine ac ?_
 refine an ?_ ?_ <;> intro h1 q1
 refine ap ?_
 refine TO.efc 0 rfl rfl (by decide) (ef_callc rfl rfl (by decide) rfl (w_sinsG (by omega) (by omega) hw (by omega) (by omega) (by omega)) ⟨ke rfl, ke rfl, ke rfl, ke rfl, trivial⟩) (TO.openL 0 rfl fun t1 hp1 => ?_)
 have hpl1 := hp1.len
 have hdone := (hps.perm hls hp1.1).done hp1.2
 refine ap ?_
 refine Tr.weak [] trivial (Tr.ret (Fin.then_ret (Fin.block_ret (Fin.then_ret (Fin.block_ret (Fin.closeL (SortL c a b l) 0 rfl (hdone) (Fin.retM0r rfl)))))))
 refine a2 ?_
 refine wk9 0 1 2 3 4 10 11 12 32 rfl ?_
 refine Tr.cn rfl ?_ ?_ <;> intro h2 q2
 refine ap ?_
 refine TO.efc 0 rfl rfl (by decide) (ef_callc rfl rfl (by decide) rfl (w_sheapG (by omega) (by omega) hw (by omega) (by omega) (by omega)) ⟨ke rfl, ke rfl, ke rfl, ke rfl, trivial⟩) (TO.openL 0 rfl fun t2 hp2 => ?_)
 have hpl2 := hp2.len
 have hdone := (hps.perm hls hp2.1).done hp2.2
 refine ap ?_
 refine Tr.weak [] trivial (Tr.ret (Fin.then_ret (Fin.block_ret (Fin.then_ret (Fin.block_ret (Fin.closeL (SortL c a b l) 0 rfl (hdone) (Fin.retM0r rfl)))))))
 refine ac ?_
 refine Tr.cutD2V0 [(0, _), (1, _), (2, _), (4, _), (10, _), (11, _), (12, _)] ⟨ke rfl, ke rfl, ke rfl, ke rfl, ke rfl, ke rfl, ke rfl, trivial⟩ (fun (lim2 : Int) (st2 : List Fnd) => [(3, int lim2)]) (fun (lim2 : Int) (st2 : List Fnd) => Hp M0 w0 S (cellsRes true b0 96 ((st2.map rowF).flatten ++ sp.map is) :: extRes M1 w1 :: rs)) (fun (lim2 : Int) (st2 : List Fnd) => 0 ≤ lim2 ∧ lim2 ≤ 100 ∧ st2.length = len ∧ PS (ltc c) a.toNat b.toNat a1.toNat b1.toNat l.toArray st2.toArray) ?_ ?_
 refine an ?_ ?_ <;> intro h3 q3
 refine ap ?_
 refine TO.efc 0 rfl rfl (by decide) (ef_callc rfl rfl (by decide) rfl (w_sbrkG (by omega) (by omega) (by omega) (by omega) (by omega) (by omega)) ⟨ke rfl, ke rfl, ke rfl, ke rfl, trivial⟩) (TO.openL 0 rfl fun t3 hp3 => ?_)
 have hpl3 := hp3.len
 have hps := hps.perm hls hp3
 refine ap ?_
 refine wk8 0 1 2 3 4 10 11 12 rfl ?_
 refine ac ?_
 exact Fin.famD2V0 (_) (_)  (⟨by omega, by omega, by omega, hps⟩) ⟨ke rfl, ke rfl, ke rfl, ke rfl, ke rfl, ke rfl, ke rfl, ke rfl, trivial⟩ (fun _ _ h => h)
 refine Tr.skip (Fin.famD2V0 (_) (_)  (⟨by omega, by omega, by omega, hps⟩) ⟨ke rfl, ke rfl, ke rfl, ke rfl, ke rfl, ke rfl, ke rfl, ke rfl, trivial⟩ (fun _ _ h => h))
 rintro lim2 st2  ⟨hlm2, hlm3, hsl2, hps⟩
 refine ap ?_
 refine TO.efc 0 rfl rfl (by decide) (ef_callc rfl rfl (by decide) rfl (w_spivG (by omega) (by omega) (by omega) (by omega) (by omega) (by omega)) ⟨ke rfl, ke rfl, ke rfl, ke rfl, trivial⟩) ?_
 refine TO.ex 52 rfl (fun z1 => TO.fact 52 rfl fun hz1 => ?_)
 obtain ⟨hpv1, hpv2⟩ := hz1
 refine ap ?_
 refine wk10 0 1 2 3 4 10 11 12 13 14 rfl (Tr.cutD3V0 [(0, _), (1, _), (2, _), (3, _), (4, _), (10, _), (11, _), (12, _)] ⟨ke rfl, ke rfl, ke rfl, ke rfl, ke rfl, ke rfl, ke rfl, ke rfl, trivial⟩ (fun (pv : Int) (hint : Int) (st3 : List Fnd) => [(13, int pv), (14, int hint)]) (fun (pv : Int) (hint : Int) (st3 : List Fnd) => Hp M0 w0 S (cellsRes true b0 96 ((st3.map rowF).flatten ++ sp.map is) :: extRes M1 w1 :: rs)) (fun (pv : Int) (hint : Int) (st3 : List Fnd) => (a1 ≤ pv ∧ pv < b1) ∧ st3.length = len ∧ PS (ltc c) a.toNat b.toNat a1.toNat b1.toNat l.toArray st3.toArray) ?_ ?_)
 refine an ?_ ?_ <;> intro h4 q4
 refine ap ?_
 refine TO.efc 0 rfl rfl (by decide) (ef_callc rfl rfl (by decide) rfl (w_srevG (by omega) (by omega) (by omega) (by omega) (by omega)) ⟨ke rfl, ke rfl, ke rfl, ke rfl, trivial⟩) (TO.openL 0 rfl fun t5 hp5 => ?_)
 have hpl5 := hp5.len
 have hps := hps.perm hls hp5
 refine ap ?_
 refine wk9 0 1 2 3 4 10 11 12 13 rfl ?_
 refine ac ?_
 refine wk9 0 1 2 3 4 10 11 12 13 rfl ?_
 refine ac ?_
 exact Fin.famD3V0 (_) (_) (_)  (⟨⟨by omega, by omega⟩, by omega, hps⟩) ⟨ke rfl, ke rfl, ke rfl, ke rfl, ke rfl, ke rfl, ke rfl, ke rfl, ke rfl, ke rfl, trivial⟩ (fun _ _ h => h)
 refine Tr.skip (Fin.famD3V0 (_) (_) (_)  (⟨⟨by omega, by omega⟩, by omega, hps⟩) ⟨ke rfl, ke rfl, ke rfl, ke rfl, ke rfl, ke rfl, ke rfl, ke rfl, ke rfl, ke rfl, trivial⟩ (fun _ _ h => h))
 rintro pv hint st3  ⟨⟨hpv1, hpv2⟩, hsl3, hps⟩
 refine wk10 0 1 2 3 4 10 11 12 13 14 rfl (Tr.cutk [0, 1, 2, 3, 4, 10, 11, 12, 13] [] (True) ?_ (fun h5 => ?_))
 refine ag ?_ ?_ <;> intro h6 q6
 refine ag ?_ ?_ <;> intro h7 q7
 refine ac ?_
 refine wk10 0 1 2 3 4 10 11 12 13 75 rfl ?_
 refine Tr.cn rfl ?_ ?_ <;> intro h8 q8
 refine ap ?_
 refine TO.efc 0 rfl rfl (by decide) (ef_callc rfl rfl (by decide) rfl (w_sins5G (by omega) (by omega) hw (by omega) (by omega) (by omega) (by omega)) ⟨ke rfl, ke rfl, ke rfl, ke rfl, trivial⟩) ?_
 refine TO.ex 80 rfl (fun z2 => TO.fact 80 rfl fun hz2 => ?_)
 have hzz := hz2
 refine ap ?_
 refine wk10 0 1 2 3 4 10 11 12 13 80 rfl ?_
 refine Tr.cn rfl ?_ ?_ <;> intro h9 q9
 have hdone := hps.done (hzz h9)
 refine Tr.ret (Fin.then_ret (Fin.block_ret (Fin.then_ret (Fin.block_ret (Fin.closeL (SortL c a b l) 0 rfl (hdone) (Fin.retM0r rfl))))))
 refine Tr.skip (Fin.fam_same () (by simp_all) (kk9 rfl))
 refine Tr.skip (Fin.fam_same () (by simp_all) (kk9 rfl))
 refine ac ?_
 refine wk10 0 1 2 3 4 10 11 12 13 75 rfl (Tr.cond rfl (fun h => nomatch h) (fun _ => ?_))
 refine Tr.skip (Fin.fam_same () (by simp_all) (kk9 rfl))
 refine ac ?_
 refine wk10 0 1 2 3 4 10 11 12 13 75 rfl (Tr.cond rfl (fun h => nomatch h) (fun _ => ?_))
 refine Tr.skip (Fin.fam_same () (by simp_all) (kk9 rfl))
 refine ag ?_ ?_ <;> intro h10 q10
 refine ac ?_
 refine cy h10 rfl (okp_indexSl rfl underlying92 sz96 (vl rfl) (vl rfl) (by omega) (by omega)) (cy h10 rfl (ok_rd 0 rfl (rd_loadA rfl agg96 sz96 (vl rfl) (cells_atG (f := rowF) (fun _ => rfl) (by omega)) rfl)) ?_)
 refine ac ?_
 refine cy h10 rfl (okp_indexSl rfl underlying92 sz96 (vl rfl) (vl rfl) (by omega) (by omega)) (cy h10 rfl (ok_rd 0 rfl (rd_loadA rfl agg96 sz96 (vl rfl) (cells_atG (f := rowF) (fun _ => rfl) (by omega)) rfl)) (cy h10 rfl (ok_callc (_, _) rfl (vl rfl) ⟨ke rfl, ke rfl, trivial⟩) ?_))
 refine ac ?_
 refine wk10 0 1 2 3 4 10 11 12 13 97 rfl ?_
 refine Tr.cn rfl ?_ ?_ <;> intro h11 q11
 refine ap ?_
 refine TO.efc 0 rfl rfl (by decide) (ef_callc rfl rfl (by decide) rfl (w_speqG (by omega) (by omega) (by omega) (by omega) (by omega) (by omega) (by omega)) ⟨ke rfl, ke rfl, ke rfl, ke rfl, ke rfl, trivial⟩) (TO.openL 0 rfl fun t7 hp7 => ?_)
 have hpl7 := hp7.len
 obtain ⟨hps, hk1, hk2⟩ := hps.eqL hw hls hp7 (by omega) (by omega) rfl (by omega) (by omega) (by omega) (by omega) (by omega) (by assumption)
 refine ap ?_
 refine wk7 0 2 3 4 10 11 15 rfl ?_
 refine ac ?_
 refine Tr.exit (Fin.then_exit (Fin.block_here (Fin.famD4V0 (_) (_) ((lim2, (_, _))) (_)  (⟨⟨⟨⟨by omega, by omega, by omega⟩, hlm2, hlm3⟩, by omega, by exact hps⟩, by omega⟩) ⟨ke rfl, ke rfl, ke rfl, ke rfl, ke rfl, ke rfl, ke rfl, trivial⟩ (fun _ _ h => h))))
 refine ac ?_
 refine ap ?_
 refine TO.efc 0 rfl rfl (by decide) (ef_callc rfl rfl (by decide) rfl (w_spartG (by omega) (by omega) (by omega) (by omega) (by omega) (by omega) (by omega)) ⟨ke rfl, ke rfl, ke rfl, ke rfl, ke rfl, trivial⟩) ?_
 refine TO.ex 111 rfl (fun z3 => TO.fact 111 rfl fun hz3 => ?_)
 refine TO.openL 0 rfl fun t8 hp8 => ?_
 have hpl8 := hp8.len
 obtain ⟨hPm, hPt⟩ := parted_of hw hp8 (by omega) (by omega) (by omega) (by omega)
 have hps := hps.perm hls hPm
 have hk1 := hPt.h1
 have hk2 := hPt.h2
 generalize (PA c a1 b1 pv st3).1 = k at *
 refine ap ?_
 refine wk8 0 1 2 3 4 12 16 17 rfl ?_
 refine a2 ?_
 refine wk10 0 1 2 3 4 11 12 16 18 19 rfl ?_
 refine ac ?_
 refine co rfl (ok_quo rfl (vl rfl) (vl rfl) (by omega)) ?_
 refine a2 ?_
 refine wk11 0 1 2 3 4 11 16 18 19 20 125 rfl ?_
 refine Tr.cn rfl ?_ ?_ <;> intro h12 q12
 refine ac ?_
 refine wk8 0 1 2 3 4 10 11 16 rfl ?_
 refine ap ?_
 refine TO.efc 0 rfl rfl (by decide) (ef_callc rfl rfl (by decide) rfl (ih (by omega) (by exact hps.belowL (Nat.le_of_lt hPt.h2)) (by omega) (by omega) (by omega) (by omega) (by omega) (by omega)) ⟨ke rfl, ke rfl, ke rfl, ke rfl, ke rfl, trivial⟩) ?_
 refine TO.openL 0 rfl fun t9 hp9 => ?_
 have hpl9 := hp9.len
 have hps := hps.left hw hls hPt hp9.1 hp9.2
 refine ap ?_
 refine wk7 0 2 3 4 10 11 16 rfl ?_
 refine ac ?_
 exact Fin.famD4V0 (_) (_) ((lim2, (_, _))) (_)  (⟨⟨⟨⟨by omega, by omega, by omega⟩, hlm2, hlm3⟩, by omega, by exact hps⟩, by omega⟩) ⟨ke rfl, ke rfl, ke rfl, ke rfl, ke rfl, ke rfl, ke rfl, trivial⟩ (fun _ _ h => h)
 refine ac ?_
 refine wk8 0 1 2 3 4 10 11 16 rfl ?_
 refine ap ?_
 refine TO.efc 0 rfl rfl (by decide) (ef_callc rfl rfl (by decide) rfl (ih (by omega) (by exact hPt.belowR) (by omega) (by omega) (by omega) (by omega) (by omega) (by omega)) ⟨ke rfl, ke rfl, ke rfl, ke rfl, ke rfl, trivial⟩) ?_
 refine TO.openL 0 rfl fun t10 hp10 => ?_
 have hpl10 := hp10.len
 have hps := hps.right hw hls hPt hp10.1 hp10.2
 refine ap ?_
 refine wk7 0 1 3 4 10 11 16 rfl ?_
 refine ac ?_
 exact Fin.famD4V0 (_) (_) ((lim2, (_, _))) (_)  (⟨⟨⟨⟨by omega, by omega, by omega⟩, hlm2, hlm3⟩, by omega, by exact hps⟩, by omega⟩) ⟨ke rfl, ke rfl, ke rfl, ke rfl, ke rfl, ke rfl, ke rfl, trivial⟩ (fun _ _ h => h)
 refine ac ?_
 refine wk10 0 1 2 3 4 10 11 12 13 97 rfl ?_
 refine ac ?_
 refine ap ?_
 refine TO.efc 0 rfl rfl (by decide) (ef_callc rfl rfl (by decide) rfl (w_spartG (by omega) (by omega) (by omega) (by omega) (by omega) (by omega) (by omega)) ⟨ke rfl, ke rfl, ke rfl, ke rfl, ke rfl, trivial⟩) ?_
 refine TO.ex 111 rfl (fun z4 => TO.fact 111 rfl fun hz4 => ?_)
 refine TO.openL 0 rfl fun t11 hp11 => ?_
 have hpl11 := hp11.len
 obtain ⟨hPm, hPt⟩ := parted_of hw hp11 (by omega) (by omega) (by omega) (by omega)
 have hps := hps.perm hls hPm
 have hk1 := hPt.h1
 have hk2 := hPt.h2
 generalize (PA c a1 b1 pv st3).1 = k at *
 refine ap ?_
 refine wk8 0 1 2 3 4 12 16 17 rfl ?_
 refine a2 ?_
 refine wk10 0 1 2 3 4 11 12 16 18 19 rfl ?_
 refine ac ?_
 refine co rfl (ok_quo rfl (vl rfl) (vl rfl) (by omega)) ?_
 refine a2 ?_
 refine wk11 0 1 2 3 4 11 16 18 19 20 125 rfl ?_
 refine Tr.cn rfl ?_ ?_ <;> intro h13 q13
 refine ac ?_
 refine wk8 0 1 2 3 4 10 11 16 rfl ?_
 refine ap ?_
 refine TO.efc 0 rfl rfl (by decide) (ef_callc rfl rfl (by decide) rfl (ih (by omega) (by exact hps.belowL (Nat.le_of_lt hPt.h2)) (by omega) (by omega) (by omega) (by omega) (by omega) (by omega)) ⟨ke rfl, ke rfl, ke rfl, ke rfl, ke rfl, trivial⟩) ?_
 refine TO.openL 0 rfl fun t12 hp12 => ?_
 have hpl12 := hp12.len
 have hps := hps.left hw hls hPt hp12.1 hp12.2
 refine ap ?_
 refine wk7 0 2 3 4 10 11 16 rfl ?_
 refine ac ?_
 exact Fin.famD4V0 (_) (_) ((lim2, (_, _))) (_)  (⟨⟨⟨⟨by omega, by omega, by omega⟩, hlm2, hlm3⟩, by omega, by exact hps⟩, by omega⟩) ⟨ke rfl, ke rfl, ke rfl, ke rfl, ke rfl, ke rfl, ke rfl, trivial⟩ (fun _ _ h => h)
 refine ac ?_
 refine wk8 0 1 2 3 4 10 11 16 rfl ?_
 refine ap ?_
 refine TO.efc 0 rfl rfl (by decide) (ef_callc rfl rfl (by decide) rfl (ih (by omega) (by exact hPt.belowR) (by omega) (by omega) (by omega) (by omega) (by omega) (by omega)) ⟨ke rfl, ke rfl, ke rfl, ke rfl, ke rfl, trivial⟩) ?_
 refine TO.openL 0 rfl fun t13 hp13 => ?_
 have hpl13 := hp13.len
 have hps := hps.right hw hls hPt hp13.1 hp13.2
 refine ap ?_
 refine wk7 0 1 3 4 10 11 16 rfl ?_
 refine ac ?_
 exact Fin.famD4V0 (_) (_) ((lim2, (_, _))) (_)  (⟨⟨⟨⟨by omega, by omega, by omega⟩, hlm2, hlm3⟩, by omega, by exact hps⟩, by omega⟩) ⟨ke rfl, ke rfl, ke rfl, ke rfl, ke rfl, ke rfl, ke rfl, trivial⟩ (fun _ _ h => h)
theorem w_spdqG : ∀ (m : Nat) {l : List Fnd} {c : Fnd × Fnd → Int} {b0 cap len : Nat} {sp : List Value} {a b lim : Int}, (hln : l.length = len) → (hll : len ≤ 1000000) → (hw : Go.Sort.SWO (ltc c)) → (hc5 : len < 50) → Go.Sort.Below (ltc c) a.toNat b.toNat l.toArray → 0 ≤ a → a ≤ b → b ≤ len → 0 ≤ lim → lim ≤ 100 → (b - a).toNat < m → FunM Tryz.prog 227 [is (.slice (some ⟨b0, 0, none⟩) len cap), int a, int b, int lim, clo Tryz.prog (fun x : Fnd × Fnd => [agg (rowF x.1), agg (rowF x.2)]) (fun x => int (c x))] (unit_) (cellsRes true b0 96 ((l.map rowF).flatten ++ sp.map is)) (fun _ => relRes b0 96 rowF (SortL c a b l) (sp.map is))
 | 0, _, _, _, _, _, _, _, _, _, _, _, _, _, _, _, _, _, _, _, h => absurd h (Nat.not_lt_zero _)
 | m + 1, _, _, _, _, _, _, _, _, _, hln, hll, hw, hc5, hB, h0, hab, hb, hl0, hl1, hm => w_spdq0G hln hll hw hc5 hB h0 hab hb hl0 hl1 (m + 1) hm (fun h1 h2 h3 h4 h5 h6 h7 h8 => w_spdqG m h1 hll hw hc5 h2 h3 h4 h5 h6 h7 (by omega))

theorem w_sortG {l : List Fnd} {c : Fnd × Fnd → Int} {b0 cap len : Nat} {sp : List Value}  (hln : l.length = len) (hw : Go.Sort.SWO (ltc c)) (hc5 : len < 50) : FunM prog 196 [is (.slice (some ⟨b0, 0, none⟩) len cap), clo prog (fun x : Fnd × Fnd => [agg (rowF x.1), agg (rowF x.2)]) (fun x => int (c x))] (unit_) (cellsRes true b0 96 ((l.map rowF).flatten ++ sp.map is)) (fun _ => relRes b0 96 rowF (SortL c 0 len l) (sp.map is)) := by
 refine FunM.of func196 rfl rfl (by exact Nb rfl) fun M0 w0 S rs M1 w1 => ?_
 have hw64 : IntKind.u64.wrap ((len : Nat) : Int) = len := IntWalk.u64_in _ ⟨by omega, by omega⟩
 refine ac ?_
 refine co rfl (okb_len rfl underlying92 (vl rfl)) ?_
 refine ac ?_
 refine ap ?_
 refine tp rfl (ok_conv rfl underlying3 underlying251 (vl rfl)) (tp rfl (kc1 (w_BLenx (by omega) (by omega)) rfl rfl) ?_)
 refine TO.ex 11 rfl (fun k => TO.fact 11 rfl fun hk => ?_)
 obtain ⟨hk1, hk2, hk3⟩ := hk
 refine tm rfl (TO.efc 0 rfl rfl (by decide) (ef_callc rfl rfl (by decide) rfl (w_spdqG (len + 1) (by omega) (by omega) hw (by omega) (.inl rfl) (by omega) (by omega) (by omega) (by omega) (by omega) (by omega)) ⟨ke rfl, ke rfl, ke rfl, ke rfl, ke rfl, trivial⟩) (TO.openL 0 rfl fun t1 hp1 => ?_))
 have hpl1 := hp1.len
 refine TO.nil (Fin.closeL (SortL c 0 len l) 0 rfl (hp1) (Fin.retM0 rfl))
theorem w_insNG {rows : List (List Pr)} {b : Int} (hb : b ≤ 1) : Fun prog 270 [slice 11 rows, int 0, int b, any] (unit_) := by
 refine fo func270 rfl ⟨rfl, rfl⟩ fun M0 w0 => ?_
 refine ac ?_
 refine Tr.block (Tr.loopw [(0, _), (1, _), (2, _), (3, _)] (kk4 rfl) (fun i : Int => [(8, int i)]) (fun i : Int => i = 1) (fun i : Int => 0) 1 (rfl) ⟨ke rfl, trivial⟩ ?_)
 rintro i hi
 refine an ?_ ?_ <;> intro h1 q1
 have := h1
 exfalso; omega
 have := h1
 refine Tr.exit (Fin.then_exit (Fin.then_exit (Fin.block_here (Fin.ret0 rfl))))
theorem w_pdqNG {rows : List (List Pr)} {b : Int} (h0 : 0 ≤ b) (hb : b ≤ 1) : Fun prog 227 [slice 11 rows, int 0, int b, any, any] (unit_) := by
 refine fo func227 rfl ⟨rfl, rfl⟩ fun M0 w0 => ?_
 refine a2 ?_
 refine Tr.block (Tr.loopw [(0, _), (4, _)] (kk2 rfl) (fun (u : Unit) => [(1, int 0), (2, int b)]) (fun (u : Unit) => True) (fun (u : Unit) => 0) () (trivial) ⟨ke rfl, ke rfl, trivial⟩ ?_)
 rintro u _
 refine ac ?_
 refine an ?_ ?_ <;> intro h1 q1
 refine ac ?_
 refine co rfl (kc4 (w_insNG (by omega)) rfl rfl rfl rfl rfl) ?_
 refine ac ?_
 refine Tr.weak [] trivial (Tr.ret (Fin.then_ret (Fin.block_ret (Fin.then_ret (Fin.block_ret (Fin.ret0r rfl))))))
 exfalso; omega
theorem w_SortNG {rows : List (List Pr)} (hs : rows.length ≤ 1) : Fun prog 196 [slice 11 rows, any] (unit_) := by
 refine fo func196 rfl ⟨rfl, rfl⟩ fun M0 w0 => ?_
 have hw : IntKind.u64.wrap ((rows.length : Nat) : Int) = rows.length := IntWalk.u64_in _ ⟨by omega, by omega⟩
 refine ac ?_
 refine co rfl (ok_len rfl underlying92 (vl rfl)) ?_
 refine a2 ?_
 refine co rfl (ok_conv rfl underlying3 underlying251 (vl rfl)) (co rfl (kc1 (w_BLenx (by omega) (by omega)) rfl rfl) (cm rfl (co rfl (ok_call rfl (w_pdqNG (rows := rows) (b := (rows.length : Int)) (by omega) (by omega)) ⟨ke rfl, ke rfl, ke rfl, ⟨_, rfl, le_any _⟩, ⟨_, rfl, le_any _⟩, trivial⟩) (Ch.nil (Fin.ret0 rfl)))))
/-- A comparison: antisymmetric, transitive, and what is equal compares alike. -/
structure Cmp {α : Type} (c : α → α → Int) : Prop where
 swap : ∀ x y, c y x = - c x y
 tr : ∀ x y z, c x y < 0 → c y z < 0 → c x z < 0
 eq : ∀ x y z, c x y = 0 → c x z = c y z
theorem Cmp.eqr {α : Type} {c : α → α → Int} (h : Cmp c) (x y z : α) (e : c y z = 0) : c x y = c x z := by
 have h1 := h.eq y z x e
 have h2 := h.swap x y
 have h3 := h.swap x z
 omega
theorem Cmp.swo {α : Type} {c : α → α → Int} (h : Cmp c) : Go.Sort.SWO (ltc fun p : α × α => c p.1 p.2) where
 irrefl x := by have := h.swap x x; exact decide_eq_false (by show ¬ c x x < 0; omega)
 trans x y z h1 h2 := decide_eq_true (h.tr x y z (of_decide_eq_true h1) (of_decide_eq_true h2))
 ntrans x y z h1 h2 := by
  have h1 : ¬ c x y < 0 := of_decide_eq_false h1
  have h2 : ¬ c y z < 0 := of_decide_eq_false h2
  refine decide_eq_false (show ¬ c x z < 0 from fun h3 => ?_)
  have e1 := h.swap x y
  by_cases hxy : c x y = 0
  · have := h.eq x y z hxy; omega
  · have := h.tr y x z (by omega) h3; omega
theorem Cmp.cons {α : Type} {c d : α → α → Int} (h : Cmp c) (k : Cmp d) : Cmp (fun x y => if c x y = 0 then d x y else c x y) where
 swap x y := by
  have h1 := h.swap x y
  have h2 := k.swap x y
  show (if c y x = 0 then d y x else c y x) = - (if c x y = 0 then d x y else c x y)
  by_cases e : c x y = 0
  · rw [if_pos e, if_pos (by omega)]; exact h2
  · rw [if_neg e, if_neg (by omega)]; exact h1
 tr x y z h1 h2 := by
  show (if c x z = 0 then d x z else c x z) < 0
  have h1 : (if c x y = 0 then d x y else c x y) < 0 := h1
  have h2 : (if c y z = 0 then d y z else c y z) < 0 := h2
  by_cases e1 : c x y = 0
  ·
   rw [if_pos e1] at h1
   have e3 := h.eq x y z e1
   by_cases e2 : c y z = 0
   · rw [if_pos e2] at h2; rw [if_pos (by omega)]; exact k.tr x y z h1 h2
   · rw [if_neg e2] at h2; rw [if_neg (by omega)]; omega
  ·
   rw [if_neg e1] at h1
   by_cases e2 : c y z = 0
   ·
    have e3 := h.eqr x y z e2
    rw [if_neg (by omega)]; omega
   ·
    rw [if_neg e2] at h2
    have := h.tr x y z h1 h2
    rw [if_neg (by omega)]; exact this
 eq x y z h1 := by
  have h1 : (if c x y = 0 then d x y else c x y) = 0 := h1
  show (if c x z = 0 then d x z else c x z) = (if c y z = 0 then d y z else c y z)
  by_cases e1 : c x y = 0
  ·
   rw [if_pos e1] at h1
   rw [h.eq x y z e1, k.eq x y z h1]
  · rw [if_neg e1] at h1; exact absurd h1 e1
theorem Cmp.nil {α : Type} : Cmp (fun _ _ : α => 0) := ⟨fun _ _ => rfl, fun _ _ _ h => absurd h (by decide), fun _ _ _ _ => rfl⟩
theorem Cmp.on {α β : Type} {c : β → β → Int} (f : α → β) (h : Cmp c) : Cmp (fun x y => c (f x) (f y)) := ⟨fun x y => h.swap (f x) (f y), fun x y z => h.tr (f x) (f y) (f z), fun x y z => h.eq (f x) (f y) (f z)⟩
theorem cmp_int : Cmp cmpI := ⟨fun x y => by unfold cmpI; by_cases h1 : x < y <;> by_cases h2 : y < x <;> simp [h1, h2] <;> omega, fun x y z h1 h2 => by unfold cmpI at *; (repeat (split at h1)) <;> (repeat (split at h2)) <;> (repeat (split)) <;> omega, fun x y z h => by rw [cmpI_zero.1 h]⟩
theorem cmpb_lt (x y : UInt8) (xs ys : List UInt8) : Lib.compareBytes (x :: xs) (y :: ys) < 0 ↔ x.toNat < y.toNat ∨ (x.toNat = y.toNat ∧ Lib.compareBytes xs ys < 0) := by
 rw [Lib.compareBytes]
 by_cases a1 : x < y
 ·
  rw [if_pos a1]
  have := UInt8.lt_iff_toNat_lt.1 a1
  constructor
  · intro _; exact .inl this
  · intro _; decide
 ·
  have b1 : ¬ x.toNat < y.toNat := fun h => a1 (UInt8.lt_iff_toNat_lt.2 h)
  rw [if_neg a1]
  by_cases a2 : y < x
  ·
   have := UInt8.lt_iff_toNat_lt.1 a2
   rw [if_pos a2]
   constructor
   · intro h; exact absurd h (by decide)
   · intro h; omega
  ·
   have b2 : ¬ y.toNat < x.toNat := fun h => a2 (UInt8.lt_iff_toNat_lt.2 h)
   rw [if_neg a2]
   constructor
   · intro h; exact .inr ⟨by omega, h⟩
   ·
    rintro (h | h)
    · omega
    · exact h.2
theorem cmp_bytes_tr : ∀ (a b c : List UInt8), Lib.compareBytes a b < 0 → Lib.compareBytes b c < 0 → Lib.compareBytes a c < 0
 | [], [], _, h, _ => by simp [Lib.compareBytes] at h
 | [], _ :: _, [], _, h => by simp [Lib.compareBytes] at h
 | [], _ :: _, _ :: _, _, _ => by simp [Lib.compareBytes]
 | _ :: _, [], _, h, _ => by simp [Lib.compareBytes] at h
 | _ :: _, _ :: _, [], _, h => by simp [Lib.compareBytes] at h
 | x :: xs, y :: ys, z :: zs, h1, h2 => by
  rw [cmpb_lt] at h1 h2 ⊢
  rcases h1 with h1 | h1
  ·
   rcases h2 with h2 | h2
   · left; omega
   · left; omega
  ·
   rcases h2 with h2 | h2
   · left; omega
   · right; exact ⟨by omega, cmp_bytes_tr xs ys zs h1.2 h2.2⟩
theorem cmp_bytes : Cmp Lib.compareBytes := ⟨cmp_swap, cmp_bytes_tr, fun x y z h => by rw [(cmp_zero x y).1 h]⟩
theorem orL_cons (a : Int) (l : List Int) : orL (a :: l) = if a = 0 then orL l else a := rfl
theorem ordF_cmp : Cmp ordF := by
 have := (cmp_bytes.on Fnd.host).cons ((cmp_int.on Fnd.machine).cons ((cmp_int.on Fnd.day).cons ((cmp_bytes.on Fnd.subj).cons ((cmp_int.on Fnd.kind).cons ((cmp_int.on Fnd.alg).cons ((cmp_int.on Fnd.bits).cons ((cmp_int.on Fnd.num).cons ((cmp_bytes.on Fnd.text).cons ((cmp_int.on Fnd.src).cons ((cmp_int.on Fnd.conf).cons (Cmp.nil (α := Fnd))))))))))))
 exact this
/-- A list sorted by a comparison, each before what is greater. -/
def SortedC {α : Type} (c : α → α → Int) (l : List α) : Prop := l.Pairwise fun x y => c x y ≤ 0
theorem sorted_uniq {α : Type} {c : α → α → Int} (hc : Cmp c) {l m : List α} (hp : l.Perm m) (h1 : SortedC c l) (h2 : SortedC c m) (h : ∀ x y, x ∈ l → y ∈ l → c x y = 0 → x = y) : l = m :=
 List.Perm.eq_of_pairwise (le := fun x y => c x y ≤ 0) (fun a b ha hb h3 h4 => h a b ha (hp.mem_iff.2 hb) (by have := hc.swap a b; omega)) h1 h2 hp
theorem sortL_spec {α : Type} [Inhabited α] {c : α → α → Int} (hc : Cmp c) {l st : List α} (h : SortL (fun p => c p.1 p.2) 0 (l.length : Nat) l st) : st.Perm l ∧ SortedC c st := by
 refine ⟨PermL.whole h.1, ?_⟩
 have hl := h.len
 unfold SortedC
 rw [List.pairwise_iff_getElem]
 intro i j hi hj hij
 have h1 := h.2 i j (by simp) hij (by simp; omega)
 have e1 : st.toArray[i]! = st[i] := by simp [hi]
 have e2 : st.toArray[j]! = st[j] := by simp [hj]
 rw [e1, e2] at h1
 have h2 : ¬ c st[j] st[i] < 0 := of_decide_eq_false h1
 have := hc.swap st[i] st[j]
 omega
section
variable {β : Type} [DecidableEq β]
def ddS (acc : List β) (x : β) : List β := if acc.getLast? = some x then acc else acc ++ [x]
/-- Each run of equal neighbours once. -/
def ddL (l : List β) : List β := l.foldl ddS []
theorem ddL_succ {l : List β} {j : Nat} {x : β} (h : l[j]? = some x) : ddL (l.take (j + 1)) = ddS (ddL (l.take j)) x := by
 unfold ddL; rw [List.take_add_one, h, List.foldl_append]; rfl
theorem ddS_last (acc : List β) (x : β) : (ddS acc x).getLast? = some x := by
 unfold ddS; split
 · assumption
 · simp
theorem ddL_last {l : List β} {j : Nat} {y : β} (hj : 1 ≤ j) (h : l[j - 1]? = some y) : (ddL (l.take j)).getLast? = some y := by
 have := ddL_succ (j := j - 1) h
 rw [show j - 1 + 1 = j by omega] at this
 rw [this]; exact ddS_last _ _
theorem ddL_ne {l : List β} {j : Nat} {x y : β} (hj : 1 ≤ j) (hx : l[j]? = some x) (hy : l[j - 1]? = some y) (hne : ¬ x = y) : ddL (l.take (j + 1)) = ddL (l.take j) ++ [x] := by
 rw [ddL_succ hx]; unfold ddS
 rw [if_neg]
 rw [ddL_last hj hy]; intro e; injection e with e; exact hne e.symm
theorem ddL_same {l : List β} {j : Nat} {x y : β} (hj : 1 ≤ j) (hx : l[j]? = some x) (hy : l[j - 1]? = some y) (he : x = y) : ddL (l.take (j + 1)) = ddL (l.take j) := by
 rw [ddL_succ hx]; unfold ddS
 rw [if_pos]
 rw [ddL_last hj hy, he]
theorem ddL_short {l : List β} (h : l.length < 2) : ddL l = l := by
 match l, h with
 | [], _ => rfl
 | [x], _ => rfl
theorem ddS_len (acc : List β) (x : β) : (ddS acc x).length ≤ acc.length + 1 := by unfold ddS; split <;> simp
theorem ddL_len (l : List β) : (ddL l).length ≤ l.length := by
 have key : ∀ (l acc : List β), (l.foldl ddS acc).length ≤ acc.length + l.length := by
  intro l
  induction l with
  | nil => intro acc; simp
  | cons x l ih => intro acc; have h1 := ih (ddS acc x); have h2 := ddS_len acc x; simp only [List.foldl_cons, List.length_cons]; omega
 have := key l []
 unfold ddL; simpa using this
theorem mem_ddS {acc : List β} {a x : β} : x ∈ ddS acc a ↔ x ∈ acc ∨ x = a := by
 unfold ddS; split
 ·
  rename_i h
  constructor
  · exact .inl
  ·
   rintro (h1 | rfl)
   · exact h1
   · exact List.mem_of_getLast? h
 · simp
theorem mem_ddL {l : List β} {x : β} : x ∈ ddL l ↔ x ∈ l := by
 have key : ∀ (l acc : List β), x ∈ l.foldl ddS acc ↔ x ∈ acc ∨ x ∈ l := by
  intro l
  induction l with
  | nil => intro acc; simp
  | cons a l ih => intro acc; rw [List.foldl_cons, ih, mem_ddS, List.mem_cons, or_assoc]
 unfold ddL; rw [key]; simp
abbrev Strict (c : β → β → Int) (l : List β) : Prop := l.Pairwise fun x y => c x y < 0
theorem ddL_strict {c : β → β → Int} (hc : Cmp c) (he : ∀ x y, c x y = 0 → x = y) {l : List β} (h : SortedC c l) : Strict c (ddL l) := by
 have key : ∀ (l acc : List β), Strict c acc → (∀ a ∈ acc, ∀ x ∈ l, c a x ≤ 0) → SortedC c l → Strict c (l.foldl ddS acc) := by
  intro l
  induction l with
  | nil => intro acc h1 _ _; exact h1
  | cons x l ih =>
   intro acc h1 h2 h3
   obtain ⟨h4, h5⟩ := List.pairwise_cons.1 h3
   rw [List.foldl_cons]
   refine ih _ ?_ (fun a ha y hy => ?_) h5
   ·
    unfold ddS; split
    · exact h1
    ·
     rename_i hl
     unfold Strict
     rw [List.pairwise_append]
     refine ⟨h1, by simp, fun a ha b hb => ?_⟩
     simp at hb; subst hb
     have hle := h2 a ha b (by simp)
     rcases Int.lt_or_eq_of_le hle with hlt | heq
     · exact hlt
     ·
      have e := he _ _ heq
      subst e
      exfalso
      obtain ⟨pre, z, hz⟩ : ∃ pre z, acc = pre ++ [z] := by
       rcases List.eq_nil_or_concat acc with rfl | ⟨pre, z, hz⟩
       · cases ha
       · exact ⟨pre, z, by simpa using hz⟩
      subst hz
      rcases List.mem_append.1 ha with ha | ha
      ·
       have h6 := (List.pairwise_append.1 h1).2.2 a ha z (by simp)
       have h7 := h2 z (by simp) a (by simp)
       have h8 := hc.swap a z
       have h6 : c a z < 0 := h6
       omega
      · simp at ha; subst ha; simp at hl
   ·
    rcases mem_ddS.1 ha with ha | rfl
    · exact h2 a ha y (List.mem_cons_of_mem _ hy)
    · exact h4 y hy
 exact key l [] .nil (by simp) h
theorem strict_uniq {c : β → β → Int} (hc : Cmp c) {l m : List β} (h1 : Strict c l) (h2 : Strict c m) (h : ∀ x, x ∈ l ↔ x ∈ m) : l = m := by
 have hn : ∀ {k : List β}, Strict c k → k.Nodup := fun hk => hk.imp fun {a b} hab e => by subst e; have := hc.swap a a; omega
 have hp : l.Perm m := (List.perm_ext_iff_of_nodup (hn h1) (hn h2)).2 h
 refine sorted_uniq hc hp (h1.imp fun h => Int.le_of_lt h) (h2.imp fun h => Int.le_of_lt h) fun x y hx hy e => ?_
 obtain ⟨i, hi, rfl⟩ := List.mem_iff_getElem.1 hx
 obtain ⟨j, hj, rfl⟩ := List.mem_iff_getElem.1 hy
 have hp := List.pairwise_iff_getElem.1 h1
 rcases Nat.lt_trichotomy i j with hij | hij | hij
 · have := hp i j hi hj hij; omega
 · subst hij; rfl
 ·
  have := hp j i hj hi hij
  have h3 := hc.swap l[i] l[j]
  omega
omit [DecidableEq β] in
theorem set_take {l : List β} {w : Nat} {u : β} (h : w < l.length) : (l.set w u).take (w + 1) = l.take w ++ [u] := by
 rw [List.take_add_one, List.getElem?_set_self h, List.take_set_of_le (Nat.le_refl _)]; rfl
theorem cells_atI {γ : Type} {f : γ → List Pr} {l : List γ} {qs : List Pr} {sz : Nat} {i : Int} {x : γ} (hf : ∀ x, (f x).length = sz) (h : l[i.toNat]? = some x) : ((((l.map f).flatten ++ qs).drop (0 + i.toNat * sz)).take sz) = f x := by
 rw [Nat.zero_add]; exact cells_at hf h
theorem cells_atO {γ : Type} {f : γ → List Pr} {l : List γ} {qs : List Pr} {sz m i : Nat} {x : γ} (hf : ∀ x, (f x).length = sz) (h : l[m + i]? = some x) : ((((l.map f).flatten ++ qs).drop (m * sz + i * sz)).take sz) = f x := by
 rw [← Nat.add_mul]; exact cells_at hf h
end
deriving instance DecidableEq for Fnd
theorem adj_pw {c : Fnd → Fnd → Int} (hc : Cmp c) {l : List Fnd} (h : ∀ (j : Nat) a b, l[j]? = some a → l[j + 1]? = some b → c a b < 0) : Strict c l := by
 induction l with
 | nil => exact .nil
 | cons x l ih =>
  have hl : ∀ (j : Nat) a b, l[j]? = some a → l[j + 1]? = some b → c a b < 0 := fun j a b ha hb => h (j + 1) a b (by simpa using ha) (by simpa using hb)
  have ih := ih hl
  refine List.pairwise_cons.2 ⟨fun y hy => ?_, ih⟩
  cases l with
  | nil => cases hy
  | cons z l =>
   have h0 : c x z < 0 := h 0 x z rfl rfl
   rcases List.mem_cons.1 hy with rfl | hy
   · exact h0
   · exact hc.tr x z y h0 ((List.pairwise_cons.1 ih).1 y hy)
theorem ordF_zero {a b : Fnd} (h : ordF a b = 0) : a = b := by
 have hk : ∀ (l : List Int), orL l = 0 → ∀ x ∈ l, x = 0 := by
  intro l
  induction l with
  | nil => intro _ x hx; cases hx
  | cons y l ih =>
   intro h x hx
   rw [orL_cons] at h
   by_cases hy : y = 0
   ·
    rw [if_pos hy] at h
    rcases List.mem_cons.1 hx with rfl | hx
    · exact hy
    · exact ih h x hx
   · rw [if_neg hy] at h; exact absurd h hy
 have := hk _ h
 unfold keysF at this
 simp only [List.mem_cons, List.not_mem_nil, or_false, forall_eq_or_imp, forall_eq, cmp_zero, cmpI_zero] at this
 obtain ⟨h1, h2, h3, h4, h5, h6, h7, h8, h9, h10, h11⟩ := this
 cases a; cases b; simp_all
theorem put_mem' {l : List Fnd} {f x : Fnd} : x ∈ putF l f ↔ x ∈ l ∨ x = f := by
 constructor
 · exact put_mem
 ·
  intro h
  unfold putF
  split
  ·
   rename_i hk
   rcases h with h | rfl
   · exact h
   ·
    obtain ⟨h1, h2⟩ := hk
    rw [Option.map_eq_some_iff] at h2
    obtain ⟨y, hy, e⟩ := h2
    rw [← ordF_zero e]; exact List.mem_of_getElem? hy
  ·
   rcases h with h | rfl
   ·
    rw [List.append_assoc, List.mem_append, List.mem_append]
    rw [← List.take_append_drop (kF l f) l] at h
    rcases List.mem_append.1 h with h | h
    · exact .inl h
    · exact .inr (.inr h)
   · simp
abbrev normL (l : List Fnd) : List Fnd := l.foldl putF []
theorem mem_normL {l : List Fnd} {x : Fnd} : x ∈ normL l ↔ x ∈ l := by
 have key : ∀ (l acc : List Fnd), x ∈ l.foldl putF acc ↔ x ∈ acc ∨ x ∈ l := by
  intro l
  induction l with
  | nil => intro acc; simp
  | cons a l ih => intro acc; rw [List.foldl_cons, ih, put_mem', List.mem_cons, or_assoc]
 rw [key]; simp
theorem norm_strict (l : List Fnd) : Strict ordF (normL l) := adj_pw ordF_cmp (fold_adj l [] (fun j a b h => by simp at h))
/-- Sorted, and then each once: the normal list. -/
theorem dd_norm {l st : List Fnd} (hp : st.Perm l) (hs : SortedC ordF st) : ddL st = normL l :=
 strict_uniq ordF_cmp (ddL_strict ordF_cmp (fun _ _ => ordF_zero) hs) (norm_strict l) fun x => by rw [mem_ddL, mem_normL]; exact hp.mem_iff
theorem fnd_of {x y : Fnd} (h : x.src = y.src ∧ x.host = y.host ∧ x.machine = y.machine ∧ x.day = y.day ∧ x.conf = y.conf ∧ x.kind = y.kind ∧ x.subj = y.subj ∧ x.alg = y.alg ∧ x.bits = y.bits ∧ x.num = y.num ∧ x.text = y.text) : x = y := by
 cases x; cases y; simp at h; simp [h]
theorem fnd_iff {x y : Fnd} : x = y ↔ (x.src = y.src ∧ x.host = y.host ∧ x.machine = y.machine ∧ x.day = y.day ∧ x.conf = y.conf ∧ x.kind = y.kind ∧ x.subj = y.subj ∧ x.alg = y.alg ∧ x.bits = y.bits ∧ x.num = y.num ∧ x.text = y.text) :=
 ⟨by rintro rfl; simp, fnd_of⟩
theorem w_compG {l : List Fnd} {b0 cap len : Nat} {sp : List Value} (hln : l.length = len) (hll : len ≤ 1000000) (hcap : len ≤ cap) (hm : cap ≤ maxLen) : FunM prog 198 [is (.slice (some ⟨b0, 0, none⟩) len cap)] (is (.slice (some ⟨b0, 0, none⟩) (ddL l).length cap)) (cellsRes true b0 96 ((l.map rowF).flatten ++ sp.map is)) (fun _ => cellsRes true b0 96 (((ddL l).map rowF).flatten ++ ((List.replicate (l.length - (ddL l).length) (([.int .i64 0, .string (ByteArray.mk #[]), .int .i64 0, .int .i64 0, .int .i64 0, .int .i64 0, .string (ByteArray.mk #[]), .int .i64 0, .int .i64 0, .int .i64 0, .string (ByteArray.mk #[])] : List Value).map is)).flatten ++ sp.map is))) := by
 refine FunM.of func198 rfl rfl (by exact Nb rfl) fun M0 w0 S rs M1 w1 => ?_
 have hmx : cap ≤ 9223372036854775807 := by unfold maxLen at hm; omega
 refine a2 ?_
 refine co rfl (okb_len rfl underlying92 (vl rfl)) ?_
 refine an ?_ ?_ <;> intro h1 q1
 refine ac ?_
 refine Tr.ret (Fin.then_ret ?_)
 refine Fin.retM1 rfl rfl ?_ (fun _ _ _ _ => by rw [ddL_short (by omega), Nat.sub_self]; rfl)
 · refine Pr.le_of_eq ?_; rw [ddL_short (by omega), hln]
 refine a2 ?_
 refine Tr.block ?_
 refine Tr.loopD1V0 [(0, _)] ⟨ke rfl, trivial⟩ (fun (k : Nat) => [(3, int ((k : Nat) : Int))]) (fun (k : Nat) => Hp M0 w0 S (cellsRes true b0 96 ((l.map rowF).flatten ++ sp.map is) :: extRes M1 w1 :: rs)) (fun (k : Nat) => (1 ≤ k ∧ k ≤ len) ∧ ddL (l.take k) = l.take k) (fun (k : Nat) => len - k) (1)  (⟨⟨by omega, by omega⟩, ddL_short (by rw [List.length_take]; omega)⟩) ⟨ke rfl, trivial⟩ (fun _ _ h => h) ?_
 rintro k  ⟨⟨hk1, hk2⟩, hdd⟩
 refine ac ?_
 refine co rfl (okb_len rfl underlying92 (vl rfl)) ?_
 refine an ?_ ?_ <;> intro h2 q2
 have hkl : k < len := by have := of_decide_eq_true h2; omega
 obtain ⟨x, hx⟩ := at_ (l := l) (k := k) (by omega)
 obtain ⟨p, hp⟩ := at_ (l := l) (k := k - 1) (by omega)
 refine a2 ?_
 refine co rfl (okp_indexSl rfl underlying92 sz96 (vl rfl) (vl rfl) (by omega) (by omega)) ?_
 refine co rfl (ok_rd 0 rfl (rd_loadA rfl agg96 sz96 (vl rfl) (cells_atI (fun _ => rfl) (by rw [Int.toNat_natCast]; exact hx)) rfl)) ?_
 refine ac ?_
 refine co rfl (okp_indexSl rfl underlying92 sz96 (vl rfl) (vl rfl) (by omega) (by omega)) ?_
 refine co rfl (ok_rd 0 rfl (rd_loadA rfl agg96 sz96 (vl rfl) (cells_atI (fun _ => rfl) (by rw [show ((k : Int) - 1).toNat = k - 1 by omega]; exact hp)) rfl)) ?_
 refine co rfl (ok_eq96 rfl (vl rfl) (vl rfl)) ?_
 refine ac ?_
 refine wk3 0 3 25 rfl ?_
 refine Tr.cn rfl ?_ ?_ <;> intro h3 q3
 refine ac ?_
 refine co rfl (okb_sliceFrom rfl underlying92 sz96 (vl rfl) (vl rfl) (by omega) (by omega) (by omega)) ?_
 refine a2 ?_
 refine Tr.block (Tr.loopD3V0 [(0, _), (4, _)] ⟨ke rfl, ke rfl, trivial⟩ (fun (st : List Fnd) (w : Nat) (j : Nat) => [(3, int ((w : Nat) : Int)), (5, int ((j : Nat) : Int))]) (fun (st : List Fnd) (w : Nat) (j : Nat) => Hp M0 w0 S (cellsRes true b0 96 ((st.map rowF).flatten ++ sp.map is) :: extRes M1 w1 :: rs)) (fun (st : List Fnd) (w : Nat) (j : Nat) => (st.length = len ∧ k ≤ w ∧ 1 ≤ j ∧ k + j ≤ len ∧ w + 1 ≤ k + j) ∧ st.take w = ddL (l.take (k + j)) ∧ ∀ i, k + j ≤ i + 1 → st[i]? = l[i]?) (fun (st : List Fnd) (w : Nat) (j : Nat) => len - (k + j)) (l) (k) (1)  (⟨⟨hln, Nat.le_refl _, Nat.le_refl _, by omega, by omega⟩, by rw [ddL_same (by omega) hx hp (fnd_iff.2 (by assumption)), hdd], fun _ _ => rfl⟩) ⟨ke rfl, ke rfl, trivial⟩ (fun _ _ h => h) ?_)
 rintro st w j  ⟨⟨hsl, hw1, hj1, hj2, hw2⟩, htk, hst⟩
 refine ac ?_
 refine co rfl (okb_len rfl underlying92 (vl rfl)) ?_
 refine an ?_ ?_ <;> intro h4 q4
 have hjl : k + j < len := by have := of_decide_eq_true h4; omega
 obtain ⟨u, hu⟩ := at_ (l := l) (k := k + j) (by omega)
 obtain ⟨v, hv⟩ := at_ (l := l) (k := k + j - 1) (by omega)
 have hu2 : st[k + j]? = some u := (hst _ (by omega)).trans hu
 have hv2 : st[k + j - 1]? = some v := (hst _ (by omega)).trans hv
 refine a2 ?_
 refine co rfl (okp_indexSl rfl underlying92 sz96 (vl rfl) (vl rfl) (by omega) (by omega)) ?_
 refine co rfl (ok_rd 0 rfl (rd_loadA rfl agg96 sz96 (vl rfl) (cells_atO (fun _ => rfl) (by rw [Int.toNat_natCast, Int.toNat_natCast]; exact hu2)) rfl)) ?_
 refine ac ?_
 refine co rfl (okp_indexSl rfl underlying92 sz96 (vl rfl) (vl rfl) (by omega) (by omega)) ?_
 refine co rfl (ok_rd 0 rfl (rd_loadA rfl agg96 sz96 (vl rfl) (cells_atO (fun _ => rfl) (by rw [Int.toNat_natCast, show k + ((j : Int) - 1).toNat = k + j - 1 by omega]; exact hv2)) rfl)) ?_
 refine co rfl (ok_ne96 rfl (vl rfl) (vl rfl)) ?_
 refine ac ?_
 refine wk5 0 3 4 5 44 rfl ?_
 refine Tr.cn rfl ?_ ?_ <;> intro h5 q5
 refine ap ?_
 refine tp rfl (okp_indexSl rfl underlying92 sz96 (vl rfl) (vl rfl) (by omega) (by omega)) ?_
 refine TO.rd 0 rfl rfl rfl (by decide) (rd_loadA rfl agg96 sz96 (vl rfl) (cells_atO (fun _ => rfl) (by rw [Int.toNat_natCast, Int.toNat_natCast]; exact hu2)) rfl) ?_
 refine tp rfl (okp_indexSl rfl underlying92 sz96 (vl rfl) (vl rfl) (by omega) (by omega)) ?_
 refine TO.ef0 0 rfl rfl (ef_store rfl rfl (vl rfl) (Va rfl) sz96 rfl (by rw [cells_len (sz := 11) (fun _ => rfl)]; omega) (cells_setN (f := rowF) (fun _ => rfl) (by omega))) ?_
 refine ap ?_
 refine ac ?_
 refine wk4 0 3 4 5 rfl ?_
 refine ac ?_
 exact Fin.famD3V0 (st.set w u) (w + 1) (j + 1)  (⟨⟨⟨by rw [List.length_set]; exact hsl, by omega, by omega, by omega, by omega⟩, by rw [set_take (by omega), htk]; exact (ddL_ne (j := k + j) (by omega) hu hv (fun e => absurd (fnd_iff.1 e) (by assumption))).symm, fun i hi => by rw [List.getElem?_set_ne (by omega)]; exact hst i (by omega)⟩, by omega⟩) ⟨⟨_, rfl, int_succ w⟩, ⟨_, rfl, int_succ j⟩, ke rfl, ke rfl, trivial⟩ (fun _ _ h => h)
 refine a2 ?_
 exact Fin.famD3V0 (st) (w) (j + 1)  (⟨⟨⟨hsl, by omega, by omega, by omega, by omega⟩, htk.trans (ddL_same (j := k + j) (by omega) hu hv (fnd_iff.2 (by assumption))).symm, fun i hi => hst i (by omega)⟩, by omega⟩) ⟨ke rfl, ⟨_, rfl, int_succ j⟩, ke rfl, ke rfl, trivial⟩ (fun _ _ h => h)
 have hje : k + j = len := by have := of_decide_eq_false h4; omega
 have hE : st.take w = ddL l := by rw [htk, hje, ← hln, List.take_length]
 have hW : (ddL l).length = w := by rw [← hE, List.length_take]; omega
 refine ac ?_
 refine ap ?_
 refine tp rfl (okb_sliceFrom rfl underlying92 sz96 (vl rfl) (vl rfl) (by omega) (by omega) (by omega)) ?_
 refine TO.ef0 0 rfl rfl (ef_clear rfl rfl underlying92 sz96 z96 rfl (by decide) (by decide) (vl rfl) (by omega) (by rw [cells_len (sz := 11) (fun _ => rfl)]; omega) (cells_clearR (f := rowF) (sz := 11) (l := st) (i := w) (fun _ => rfl) rfl (by omega) (by omega))) ?_
 refine ap ?_
 refine ac ?_
 refine co rfl (okb_sliceTo rfl underlying92 sz96 (vl rfl) (vl rfl) (by omega) (by omega) (by omega) (by omega)) ?_
 refine ac ?_
 refine wk1 2 rfl (Tr.ret (Fin.block_ret (Fin.then_ret (Fin.then_ret (Fin.block_ret (Fin.then_ret (Fin.retM1 rfl rfl ?_ (fun _ _ _ _ => by rw [hW, ← hE, hln, ← hsl, List.append_assoc]))))))))
 · refine Pr.le_of_eq ?_; rw [hW, Int.toNat_natCast]
 refine a2 ?_
 exact Fin.famD1V0 (k + 1)  (⟨⟨⟨by omega, by omega⟩, by rw [ddL_ne (by omega) hx hp (fun e => absurd (fnd_iff.1 e) (by assumption)), hdd, List.take_add_one, hx]; rfl⟩, by omega⟩) ⟨⟨_, rfl, int_succ k⟩, ke rfl, trivial⟩ (fun _ _ h => h)
 have hke : k = len := by have := of_decide_eq_false h2; omega
 refine a2 ?_
 refine Tr.ret ?_
 refine Fin.retM1 rfl rfl ?_ (fun _ _ _ _ => by rw [show ddL l = l by rw [hke, ← hln, List.take_length] at hdd; exact hdd, Nat.sub_self]; rfl)
 · refine Pr.le_of_eq ?_; rw [show ddL l = l by rw [hke, ← hln, List.take_length] at hdd; exact hdd, hln]
theorem w_cloneG {l : List Fnd} (h0 : l ≠ []) (hl : l.length ≤ 100000) : FunM prog 195 [slice 11 (l.map rowF)] (lens (l.map rowF).length) (noRes) (fun v => mutRes 96 11 (l.map rowF) v) := by
 refine FunM.of func195 rfl rfl (by exact Nb rfl) fun M0 w0 S rs M1 w1 => ?_
 have hpos : 0 < l.length := List.length_pos_iff.2 h0
 refine a2 ?_
 refine co rfl (ok_eqnil rfl underlying92 (vl rfl)) ?_
 refine ac ?_
 refine Tr.ex 4 rfl (fun z1 => Tr.fact 4 rfl fun hz1 => ?_)
 refine Tr.cn rfl ?_ ?_ <;> intro h1 q1
 exfalso; have := hz1 h1; simp_all
 refine ac ?_
 refine ap ?_
 refine TO.pad ?_
 refine TO.efs 0 rfl rfl (by decide) (ef_appvoid rfl rfl (by decide) rfl underlying92 sz96 by96 z96 rfl (by decide) (by decide) (vl rfl) (vl rfl) (by rw [List.length_map]; exact hpos) (by rw [List.length_map]; unfold maxLen; omega) (by rw [List.length_map]; omega)) (fun v1 => ?_)
 refine ap ?_
 refine Tr.ret (Fin.drop 1 ?_)
 refine Fin.retM1 rfl rfl ?_ (by intro _ _ _ h; rw [h.1])
 · exact andIs_le _ _
theorem w_FNormN {l : List Fnd} (hc : ∀ f ∈ l, checkF f = true) (hf : ∀ f ∈ l, f.fits) (h0 : l ≠ []) (hl : l.length < 50) : Fun prog 153 [fnds l] (tup [fnds (normL l), int 0]) := by
 refine fo func153 rfl ⟨rfl, rfl⟩ fun M0 w0 => ?_
 refine a2 ?_
 refine Tr.block (Tr.loopw [(0, _), (8, _), (9, _)] (kk3 rfl) (fun k : Nat => [(10, int ((k : Nat) : Int))]) (fun k : Nat => k ≤ (l).length) (fun k : Nat => (l).length - k) 0 (Nat.zero_le _) ⟨ke rfl, trivial⟩ ?_)
 rintro k hle_k
 refine ac ?_
 refine Tr.seq ?_
 refine Tr.cn rfl ?_ ?_ <;> intro h1 q1
 have hk_k : k < (l).length := lt_of_dec h1
 obtain ⟨x, hx_k⟩ := at_ hk_k
 have hfx := hf x (List.mem_of_getElem? hx_k)
 refine ac ?_
 refine Tr.seq (Tr.block (Tr.seq (Tr.regT (tp rfl (ok_indexAddr rfl underlying92 sz96 (vl rfl) (vl rfl) (by omega) (by exact row_at (by assumption))) ?_))))
 refine tp rfl (ok_loadA rfl agg96 sz96 (vl rfl) rfl rfl) ?_
 refine Tl rfl rfl rfl rfl z96 zo96 (fun b1 => ?_)
 refine sf 0 5 ⟨rfl, rfl, rfl⟩ rfl rfl rfl rfl ?_
 refine ao ?_
 · repeat' first | exact absurd (if_pos (hc x (List.mem_of_getElem? hx_k))) q | exact Fin.fam_same (k + 1) ⟨hk_k, by omega⟩ ⟨⟨_, rfl, int_succ k⟩, ke rfl, ke rfl, ke rfl, trivial⟩ | refine co rfl (kc1 (w_FCheck (by assumption)) rfl rfl) ?_ | refine ac ?_ | (refine Tr.cn rfl ?_ ?_ <;> intro h q)
 have he_k : k = (l).length := by have := ge_of_dec h1; omega
 subst he_k
 refine ac ?_
 refine ao ?_
 refine TO.pad ?_
 refine TO.efs 0 rfl rfl (by decide) (ef_call rfl rfl (by decide) rfl (w_cloneG h0 (by omega)) ⟨ke rfl, trivial⟩) (fun v1 => ?_)
 refine TO.openM 0 rfl fun b2 cap2 sp2 hv2 hg2 hm2 hs2 => ?_
 subst hv2
 refine ao ?_
 refine ao ?_
 refine TO.efc 0 rfl rfl (by decide) (ef_callc rfl rfl (by decide) rfl (w_sortG (l := l) (c := fun p => ordF p.1 p.2) (len := (l.map rowF).length) (sp := sp2) (List.length_map ..).symm ordF_cmp.swo (by rw [List.length_map]; exact hl)) ⟨(Ka rfl), ⟨_, rfl, fn_le_clo e_FOrder (fun _ => w_FOrder)⟩, trivial⟩) ?_
 refine TO.openL 0 rfl fun t1 hp1 => ?_
 have hpl1 := hp1.len
 have hsp := sortL_spec ordF_cmp (by simpa using hp1)
 have hdn := dd_norm hsp.1 hsp.2
 refine ao ?_
 refine ao ?_
 refine TO.efc 0 rfl rfl (by decide) (ef_callc rfl rfl (by decide) rfl (w_compG (l := t1) (len := (l.map rowF).length) (sp := sp2) (hpl1.trans (List.length_map ..).symm) (by rw [List.length_map]; omega) hg2 hm2) ⟨(Ka rfl), trivial⟩) ?_
 refine ao ?_
 refine ac ?_
 refine co rfl (okb_len rfl underlying92 (vl rfl)) ?_
 refine ac ?_
 refine wk2 7 28 rfl ?_
 refine Tr.cn rfl ?_ ?_ <;> intro h3 q3
 exfalso; have := ddL_len t1; omega
 refine a2 ?_
 refine Tr.ret ?_
 refine Fin.frzS (sz := 11) ((ddL t1).map rowF) 0 2 rfl rfl (Pr.le_of_eq (by rw [List.length_map])) (map_rows fun _ => rfl) (by have := ddL_len t1; simp only [List.length_map] at hg2 ⊢; omega) hm2 (by have hdl := ddL_len t1; rw [hpl1] at hdl; simp only [List.length_append, List.length_map, hs2, hpl1]; rw [flat_len (sz := 11) (fun r hr => by rw [List.eq_of_mem_replicate hr]; rfl), List.length_replicate]; simp only [List.length_map] at hg2 ⊢; omega) ?_
 refine Fin.ret2 rfl (OutW.bse _ _) rfl ?_ rfl ?_
 · exact Pr.le_trans (andIs_le _ _) (Pr.le_of_eq (by rw [hdn]))
 · exact Lr
theorem w_clone0G   : Fun prog 195 [fnds []] (fnds []) := by
 refine fo func195 rfl ⟨rfl, rfl⟩ fun M0 w0 => ?_
 refine a2 ?_
 refine co rfl (ok_eqnil rfl underlying92 (vl rfl)) ?_
 refine ac ?_
 refine Tr.ex 4 rfl (fun z1 => Tr.fact 4 rfl fun hz1 => ?_)
 refine Tr.cn rfl ?_ ?_ <;> intro h1 q1
 refine a2 ?_
 · exact nil_slice 11
 refine ac ?_
 refine ap ?_
 refine TO.pad ?_
 refine TO.efs 0 rfl rfl (by decide) (eApp rfl rfl rfl rfl underlying92 sz96 by96 z96 (Kf rfl) (vl rfl) (appR_full (by exact List.Mem.head _) (vl rfl))) (fun v1 => ?_)
 refine ap ?_
 refine ac ?_
 · exact andIs_le _ _
theorem w_comp0G   : Fun prog 198 [fnds []] (fnds []) := by
 refine fo func198 rfl ⟨rfl, rfl⟩ fun M0 w0 => ?_
 · repeat' first | exact Lr | (exfalso; simp at h) | refine ac ?_ | (refine Tr.cn rfl ?_ ?_ <;> intro h q)
theorem w_FNorm0   : Fun prog 153 [fnds []] (tup [fnds [], int 0]) := by
 refine fo func153 rfl ⟨rfl, rfl⟩ fun M0 w0 => ?_
 refine a2 ?_
 refine Tr.block (Tr.loopw [(0, _), (8, _), (9, _)] (kk3 rfl) (fun (u : Unit) => [(10, int 0)]) (fun (u : Unit) => True) (fun (u : Unit) => 0) () (trivial) ⟨ke rfl, trivial⟩ ?_)
 rintro u _
 refine ac ?_
 refine Tr.seq ?_
 refine Tr.cn rfl ?_ ?_ <;> intro h1 q1
 exfalso; simp at h1
 have := h1
 refine a2 ?_
 refine co rfl (kc1 (w_clone0G) rfl rfl) ?_
 refine a2 ?_
 refine co rfl (ok_call rfl (w_SortNG (rows := []) (by decide)) ⟨ke rfl, ⟨_, rfl, le_any _⟩, trivial⟩) ?_
 refine a2 ?_
 refine co rfl (kc1 (w_comp0G) rfl rfl) ?_
 refine a2 ?_
 refine wk2 7 28 rfl ?_
 refine Tr.cn rfl ?_ ?_ <;> intro h2 q2
 exfalso; simp at h2
 refine a2 ?_
 refine Tr.ret (Fin.ret2 rfl (OutW.bse _ _) rfl ?_ rfl ?_)
 · exact Lr
 · exact Lr
theorem w_FNorm {l : List Fnd} (hc : ∀ f ∈ l, checkF f = true) (hf : ∀ f ∈ l, f.fits) (hl : l.length < 50) : Fun Tryz.prog 153 [fnds l] (tup [fnds (normL l), int 0]) := by
 by_cases h : l = []
 · subst h; exact w_FNorm0
 · exact w_FNormN hc hf h hl
/-- A certificate. -/
structure Crt where
 serial : Int
 issuer : List UInt8
 subject : List UInt8
 kalg : Int
 kbits : Int
 keyId : Int
 halg : Int
 hbits : Int
 from_ : Int
 to_ : Int
 auth : Bool
 path : Int
 names : List (List UInt8)
 skey : Int
 ssum : Int
abbrev txts (l : List (List UInt8)) : Pr := slice 1 (l.map fun t => [str t])
abbrev rowCr (c : Crt) : List Pr := [int c.serial, str c.issuer, str c.subject, int c.kalg, int c.kbits, int c.keyId, int c.halg, int c.hbits, int c.from_, int c.to_, bool c.auth, int c.path, txts c.names, int c.skey, int c.ssum]
abbrev certs (l : List Crt) : Pr := slice 15 (l.map rowCr)
structure Crt.fits (c : Crt) : Prop where
 issuer : c.issuer.length ≤ maxLen
 subject : c.subject.length ≤ maxLen
 names : ∀ s ∈ c.names, s.length ≤ maxLen
def keyB (n : Int) : Bool := decide (0 ≤ n) && decide (n ≤ 2147483648)
def sumB (n : Int) : Bool := decide (0 ≤ n) && decide (n < 4294967296)
def letterB (o : List UInt8) (c : UInt8) : Bool := decide (97 ≤ c.toNat ∧ c.toNat ≤ 122) || decide (65 ≤ c.toNat ∧ c.toNat ≤ 90) || decide (48 ≤ c.toNat ∧ c.toNat ≤ 57) || decide (0 ≤ Lib.indexByte o c)
def wordB (s : List UInt8) : Bool := s.all (letterB [45, 95, 46]) && decide (1 ≤ s.length ∧ s.length ≤ 32)
def nameAt (l : List (List UInt8)) (i : Nat) : Bool := named (l[i]?.getD []) && (decide (i = 0) || decide (Lib.compareBytes (l[i - 1]?.getD []) (l[i]?.getD []) = -1))
def namesB (l : List (List UInt8)) : Bool := allI (nameAt l) l.length && decide (l.length ≤ 8)
def ofB (alg bits kind : Int) : Bool := decide (strength alg bits > 0) && (catOf alg).kind == kind
def validB (c : Crt) : Bool :=
 (decide (0 ≤ c.serial) && decide (c.serial ≤ 1099511627776) && named c.issuer && named c.subject && namesB c.names) &&
 (ofB c.kalg c.kbits 2 && keyB c.keyId && ofB c.halg c.hbits 1 && keyB c.skey && sumB c.ssum) &&
 (decide (0 ≤ c.from_) && decide (c.from_ ≤ c.to_) && decide (c.to_ ≤ 40000)) && (decide (0 ≤ c.path) && decide (c.path ≤ 8) && (c.auth || c.path == 0))
def showsB (alg bits id : Int) (l : List Crt) : Bool := ofB alg bits 2 && keyB id && decide (l.length ≤ 8) && l.all validB && match l with | [] => true | c :: _ => decide (c.kalg = alg ∧ c.kbits = bits) && c.keyId == id
/-- What an endpoint shows. -/
structure Idn where
 alg : Int
 bits : Int
 keyId : Int
 chain : List Crt
abbrev rowId (x : Idn) : List Pr := [int x.alg, int x.bits, int x.keyId, certs x.chain]
abbrev idns (l : List Idn) : Pr := slice 4 (l.map rowId)
def Idn.fits (x : Idn) : Prop := ∀ c ∈ x.chain, c.fits
/-- An endpoint. -/
structure Ept where
 name : List UInt8
 least : Int
 most : Int
 suites : List Int
 own : Bool
 ids : List Idn
 anchors : List Int
 hashes : List Int
 fall : Bool
abbrev rowEp (e : Ept) : List Pr := [str e.name, int e.least, int e.most, ints e.suites, bool e.own, idns e.ids, ints e.anchors, ints e.hashes, bool e.fall]
structure Ept.fits (e : Ept) : Prop where
 name : e.name.length ≤ maxLen
 ids : ∀ x ∈ e.ids, x.fits
def ascAt (l : List Int) (i : Nat) : Bool := decide (i = 0) || decide (l[i - 1]?.getD 0 < l[i]?.getD 0)
def ascB (l : List Int) : Bool := allI (ascAt l) l.length
def suiteAt (l : List Int) (i : Nat) : Bool := decide (1 ≤ l[i]?.getD 0 ∧ l[i]?.getD 0 ≤ 16) && !((l.take i).any fun x => l[i]?.getD 0 == x)
def suitesB (l : List Int) : Bool := allI (suiteAt l) l.length
def hashB (n : Int) : Bool := (catOf n).kind == 1
def idB (x : Idn) : Bool := showsB x.alg x.bits x.keyId x.chain
def eptB (e : Ept) : Bool :=
 (wordB e.name && decide (1 ≤ e.least) && decide (e.least ≤ e.most) && decide (e.most ≤ 4) && suitesB e.suites) &&
 (decide (e.ids.length ≤ 4) && decide (e.anchors.length ≤ 16) && ascB e.anchors && ascB e.hashes) && e.ids.all idB && e.anchors.all keyB && e.hashes.all hashB
theorem any_not {β : Type} (p : β → Bool) (l : List β) : (l.any fun x => !p x) = !l.all p := by
 induction l with
 | nil => rfl
 | cons a l ih => rw [List.any_cons, List.all_cons, ih]; cases p a <;> rfl
theorem getD_at {β : Type} {l : List β} {k : Nat} {x d : β} (h : l[k]? = some x) : l[k]?.getD d = x := by rw [h]; rfl

theorem w_slIB {s : List UInt8} {c : UInt8}  : Fun prog 264 [str s, is (.int .u8 ((c.toNat : Nat) : Int))] (int (Lib.indexByte s c)) := by
 refine fo func264 rfl ⟨rfl, rfl⟩ fun M0 w0 => ?_
 refine a2 ?_
 refine co rfl (ok_idxbyte rfl func293 (by kernel_rfl) (by kernel_rfl) (by kernel_rfl) (by kernel_rfl) (vl rfl) (vl rfl)) ?_
 refine a2 ?_
 · exact Lr
theorem w_sIB {s : List UInt8} {c : UInt8}  : Fun prog 222 [str s, is (.int .u8 ((c.toNat : Nat) : Int))] (int (Lib.indexByte s c)) := by
 refine fo func222 rfl ⟨rfl, rfl⟩ fun M0 w0 => ?_
 refine a2 ?_
 refine co rfl (kc2 (w_slIB) rfl rfl rfl) ?_
 refine a2 ?_
 · exact Lr
theorem w_Letter {o : List UInt8} {c : UInt8}  : Fun prog 188 [is (.int .u8 ((c.toNat : Nat) : Int)), str o] (bool (letterB o c)) := by
 refine fo func188 rfl ⟨rfl, rfl⟩ fun M0 w0 => ?_
 refine ac ?_
 refine ag ?_ ?_ <;> intro h1 q1
 refine ag ?_ ?_ <;> intro h2 q2
 refine ac ?_
 refine wk1 4 rfl ?_
 refine ac ?_
 · refine bool_eq ?_; unfold letterB; simp_all; omega
 refine ag ?_ ?_ <;> intro h3 q3
 refine ag ?_ ?_ <;> intro h4 q4
 refine ac ?_
 refine wk1 4 rfl ?_
 refine ac ?_
 · refine bool_eq ?_; unfold letterB; simp_all; omega
 refine ag ?_ ?_ <;> intro h5 q5
 · repeat' first | (refine bool_eq ?_; unfold letterB; simp_all; omega) | refine cy h rfl (kc2 (w_sIB) rfl rfl rfl) ?_ | refine ac ?_ | (refine Ch.cg rfl rfl rfl ?_ ?_ <;> intro h q)
 refine ac ?_
 refine cy rfl rfl (kc2 (w_sIB) rfl rfl rfl) ?_
 refine ac ?_
 refine wk1 4 rfl ?_
 refine ac ?_
 · refine bool_eq ?_; unfold letterB; simp_all; omega
 refine ag ?_ ?_ <;> intro h7 q7
 · repeat' first | (refine bool_eq ?_; unfold letterB; simp_all; omega) | refine cy h rfl (kc2 (w_sIB) rfl rfl rfl) ?_ | refine ac ?_ | (refine Ch.cg rfl rfl rfl ?_ ?_ <;> intro h q)
 refine ac ?_
 refine cy rfl rfl (kc2 (w_sIB) rfl rfl rfl) ?_
 refine ac ?_
 refine wk1 4 rfl ?_
 refine ac ?_
 · refine bool_eq ?_; unfold letterB; simp_all; omega
 refine ag ?_ ?_ <;> intro h9 q9
 refine ag ?_ ?_ <;> intro h10 q10
 refine ac ?_
 refine wk1 4 rfl ?_
 refine ac ?_
 · refine bool_eq ?_; unfold letterB; simp_all; omega
 refine ag ?_ ?_ <;> intro h11 q11
 · repeat' first | (refine bool_eq ?_; unfold letterB; simp_all; omega) | refine cy h rfl (kc2 (w_sIB) rfl rfl rfl) ?_ | refine ac ?_ | (refine Ch.cg rfl rfl rfl ?_ ?_ <;> intro h q)
 refine ac ?_
 refine cy rfl rfl (kc2 (w_sIB) rfl rfl rfl) ?_
 refine ac ?_
 refine wk1 4 rfl ?_
 refine ac ?_
 · refine bool_eq ?_; unfold letterB; simp_all; omega
 refine ag ?_ ?_ <;> intro h13 q13
 · repeat' first | (refine bool_eq ?_; unfold letterB; simp_all; omega) | refine cy h rfl (kc2 (w_sIB) rfl rfl rfl) ?_ | refine ac ?_ | (refine Ch.cg rfl rfl rfl ?_ ?_ <;> intro h q)
 refine ac ?_
 refine cy rfl rfl (kc2 (w_sIB) rfl rfl rfl) ?_
 refine ac ?_
 refine wk1 4 rfl ?_
 refine ac ?_
 · refine bool_eq ?_; unfold letterB; simp_all; omega
theorem w_Word {s : List UInt8} (hs : s.length ≤ maxLen) : Fun prog 142 [str s] (bool (wordB s)) := by
 refine fo func142 rfl ⟨rfl, rfl⟩ fun M0 w0 => ?_
 refine a2 ?_
 refine co rfl (ok_bytes rfl underlying9 underlying198 underlying5 (vl rfl) (by assumption)) ?_
 refine ac ?_
 refine Tr.block (Tr.lenm 6 rfl fun hl6 => (Tr.loopw [(0, _), (6, _), (7, _)] (kk3 rfl) (fun k : Nat => [(8, int ((k : Nat) : Int))]) (fun k : Nat => k ≤ (s).length ∧ (∀ j y, j < k → s[j]? = some y → (!letterB [45, 95, 46] y) = false)) (fun k : Nat => (s).length - k) 0 (⟨Nat.zero_le _, fun j y hj => absurd hj (by omega)⟩) ⟨ke rfl, trivial⟩ ?_))
 rintro k ⟨hle_k, hinv_k⟩
 refine ac ?_
 refine Tr.seq ?_
 refine Tr.cn rfl ?_ ?_ <;> intro h1 q1
 have hk_k : k < (s).length := lt_of_dec h1
 obtain ⟨c, hx_k⟩ := at_ hk_k
 refine ac ?_
 refine Tr.seq (Tr.block (Tr.seq (Tr.reg0 (co rfl (ok_indexAddr rfl underlying198 sz5 (vl rfl) (vl rfl) (by omega) (by exact row_at (by assumption))) ?_))))
 · repeat' first | (refine bool_eq ?_; unfold wordB; rw [all_hit (p := letterB [45, 95, 46]) hx_k (by simp_all)]; rfl) | exact Fin.fam_same (k + 1) ⟨⟨hk_k, step_no (p := fun c => !letterB [45, 95, 46] c) hx_k (by simp_all) hinv_k⟩, by omega⟩ ⟨⟨_, rfl, int_succ k⟩, ke rfl, ke rfl, ke rfl, trivial⟩ | refine co rfl (kc2 (w_Letter) rfl rfl rfl) ?_ | refine ac ?_ | (refine Tr.cn rfl ?_ ?_ <;> intro h q)
 have he_k : k = (s).length := by have := ge_of_dec h1; omega
 subst he_k
 · repeat' first | (refine bool_eq ?_; unfold wordB; rw [all_end hinv_k, Bool.true_and]; rw [decide_eq_decide]; omega) | (refine bool_eq ?_; unfold wordB; rw [all_end hinv_k, Bool.true_and]; symm; rw [decide_eq_false_iff_not]; omega) | refine ac ?_ | (refine Ch.cg rfl rfl rfl ?_ ?_ <;> intro h q)
theorem w_CKey {n : Int}  : Fun prog 149 [int n] (bool (keyB n)) := by
 refine fo func149 rfl ⟨rfl, rfl⟩ fun M0 w0 => ?_
 refine ac ?_
 refine ac ?_
 refine Ch.cs 5 rfl ?_ ?_ <;> intro h1 q1
 refine ac ?_
 refine ac ?_
 · refine bool_eq ?_; unfold keyB; simp_all
 refine ac ?_
 refine ac ?_
 · refine bool_eq ?_; unfold keyB; simp_all; omega
theorem e_CKey : Entry Tryz.prog 149 := ⟨_, Tryz.func149, rfl, rfl⟩
theorem w_Csum {n : Int}  : Fun prog 269 [int n] (bool (sumB n)) := by
 refine fo func269 rfl ⟨rfl, rfl⟩ fun M0 w0 => ?_
 refine ac ?_
 refine ac ?_
 refine Ch.cs 5 rfl ?_ ?_ <;> intro h1 q1
 refine ac ?_
 refine ac ?_
 · refine bool_eq ?_; unfold sumB; simp_all
 refine ac ?_
 refine ac ?_
 · refine bool_eq ?_; unfold sumB; simp_all; omega
theorem w_Cof {alg bits kind : Int}  : Fun prog 268 [agg [int alg, int bits], int kind] (bool (ofB alg bits kind)) := by
 refine fo func268 rfl ⟨rfl, rfl⟩ fun M0 w0 => ?_
 refine ac ?_
 refine ac ?_
 refine co rfl (kc1 (w_Valid) rfl rfl) (cm rfl ?_)
 refine Ch.cs 7 rfl ?_ ?_ <;> intro h1 q1
 refine ac ?_
 refine cy h1 rfl (kc1 (w_Kind) rfl rfl) ?_
 refine ac ?_
 refine ac ?_
 · refine bool_eq ?_; unfold ofB; simp_all
 refine ac ?_
 refine ac ?_
 · refine bool_eq ?_; unfold ofB; simp_all; omega
theorem w_Cnamed {l : List (List UInt8)} (hf : ∀ s ∈ l, s.length ≤ maxLen) : Fun prog 267 [txts l] (bool (namesB l)) := by
 refine fo func267 rfl ⟨rfl, rfl⟩ fun M0 w0 => (Tr.lenm 0 rfl fun hlm_0 => ?_)
 refine a2 ?_
 refine Tr.block (Tr.loopw [(0, _), (5, _), (6, _)] (kk3 rfl) (fun k : Nat => [(7, int ((k : Nat) : Int))]) (fun k : Nat => k ≤ (l).length ∧ (∀ j, j < k → nameAt l j = true)) (fun k : Nat => (l).length - k) 0 (⟨Nat.zero_le _, fun j hj => absurd hj (by omega)⟩) ⟨ke rfl, trivial⟩ ?_)
 rintro k ⟨hle_k, hinv_k⟩
 refine ac ?_
 refine Tr.seq ?_
 refine Tr.cn rfl ?_ ?_ <;> intro h1 q1
 have hk_k : k < (l).length := lt_of_dec h1
 obtain ⟨s, hx_k⟩ := at_ hk_k
 have hsf := hf s (List.mem_of_getElem? hx_k)
 have hg := getD_at (d := []) hx_k
 refine a2 ?_
 refine co rfl (ok_indexAddr rfl underlying74 sz9 (vl rfl) (vl rfl) (by omega) (row_at hx_k)) ?_
 refine a2 ?_
 refine co rfl (kc1 (w_Named hsf) rfl rfl) ?_
 refine ag ?_ ?_ <;> intro h2 q2
 refine ac ?_
 refine wk5 0 5 6 7 27 rfl ?_
 refine a2 ?_
 · refine bool_eq ?_; unfold namesB; rw [allI_hit (p := nameAt l) (k := k) (by omega) (by unfold nameAt; rw [hg]; simp_all)]; rfl
 refine ag ?_ ?_ <;> intro h3 q3
 have hk0 : 0 < k := by simpa using h3
 obtain ⟨y, hy⟩ := at_ (l := l) (k := k - 1) (by omega)
 have hgy := getD_at (d := []) hy
 · repeat' first | (refine bool_eq ?_; unfold namesB; rw [allI_hit (p := nameAt l) (k := k) (by omega) (by unfold nameAt; rw [hg, hgy]; simp_all; omega)]; rfl) | (exact Fin.fam_same (k + 1) ⟨⟨hk_k, allI_step hinv_k (by unfold nameAt; rw [hg, hgy]; simp_all)⟩, by omega⟩ ⟨⟨_, rfl, int_succ k⟩, ke rfl, ke rfl, ke rfl, trivial⟩) | (refine cy h3 rfl (ok_indexAddr rfl underlying74 sz9 (vl rfl) (vl rfl) (by omega) (by rw [show ((k : Nat) : Int) - 1 = ((k - 1 : Nat) : Int) by omega]; exact row_at hy)) ?_) | refine cy h3 rfl (ok_ges rfl (vl rfl) (vl rfl)) ?_ | refine ac ?_ | (refine Tr.cn rfl ?_ ?_ <;> intro h q)
 refine ac ?_
 refine wk5 0 5 6 7 27 rfl ?_
 refine a2 ?_
 exact Fin.fam_same (k + 1) ⟨⟨hk_k, allI_step hinv_k (by unfold nameAt; rw [hg]; simp_all)⟩, by omega⟩ ⟨⟨_, rfl, int_succ k⟩, ke rfl, ke rfl, ke rfl, trivial⟩
 have he_k : k = (l).length := by have := ge_of_dec h1; omega
 subst he_k
 refine a3 ?_
 · refine bool_eq ?_; unfold namesB; rw [allI_end hinv_k, Bool.true_and]; simp; omega
theorem w_Cvalid {c : Crt} (hc : c.fits) : Fun prog 225 [agg (rowCr c)] (bool (validB c)) := by
 refine fo func225 rfl ⟨rfl, rfl⟩ fun M0 w0 => ?_
 · repeat' first | (refine bool_eq ?_; unfold validB; simp_all; omega) | (refine bool_eq ?_; unfold validB; simp_all) | refine cy h rfl (kc1 (w_Named hc.issuer) rfl rfl) ?_ | refine cy h rfl (kc1 (w_Named hc.subject) rfl rfl) ?_ | refine cy h rfl (kc1 (w_Cnamed hc.names) rfl rfl) ?_ | refine co rfl (kc2 (w_Cof) rfl rfl rfl) ?_ | refine cy h rfl (kc2 (w_Cof) rfl rfl rfl) ?_ | refine cy h rfl (kc1 (w_Csum) rfl rfl) ?_ | refine cy h rfl (kc1 (w_CKey) rfl rfl) ?_ | refine ac ?_ | (refine Tr.cn rfl ?_ ?_ <;> intro h q) | (refine Ch.cg rfl rfl rfl ?_ ?_ <;> intro h q)
theorem w_CCheck {c : Crt} (hc : c.fits) : Fun prog 192 [agg (rowCr c)] (int (if validB c then 0 else 9)) := by
 refine fo func192 rfl ⟨rfl, rfl⟩ fun M0 w0 => ?_
 · repeat' first | (refine int_eq ?_; simp_all) | refine co rfl (kc1 (w_Cvalid (by assumption)) rfl rfl) ?_ | refine ac ?_ | (refine Tr.cn rfl ?_ ?_ <;> intro h q)
abbrev anyRow : List Pr := [any, any, any, any, any, any, any, any, any, any, any, any]
abbrev anyRows : List (List Pr) := [anyRow, anyRow, anyRow, anyRow, anyRow, anyRow, anyRow, anyRow, anyRow, anyRow, anyRow, anyRow, anyRow, anyRow, anyRow, anyRow]
theorem any_at {q : List Pr} {k o : Nat} (hk : k < 16) (ho : o = k * 12) : (anyRows.flatten ++ q)[o]? = some any := by
 subst ho
 have h : anyRows[k]? = some anyRow := by
  have hk' : k < anyRows.length := hk
  rw [List.getElem?_eq_getElem hk']
  have : ∀ r ∈ anyRows, r = anyRow := by intro r hr; simp at hr; exact hr
  rw [this _ (List.getElem_mem hk')]
 have hl : ∀ r ∈ anyRows, r.length = 12 := by intro r hr; simp at hr; rw [hr]; rfl
 rw [List.getElem?_append_left (by rw [flat_len hl]; show k * 12 < 16 * 12; omega)]
 exact flat_at (j := 0) hl h (by omega)
theorem any_rows {k : Nat} (hk : k < 16) : anyRows[k]? = some anyRow := by
 have hk' : k < anyRows.length := hk
 rw [List.getElem?_eq_getElem hk']
 have : ∀ r ∈ anyRows, r = anyRow := by intro r hr; simp at hr; exact hr
 rw [this _ (List.getElem_mem hk')]
theorem any_len : ∀ r ∈ anyRows, r.length = 12 := by intro r hr; simp at hr; rw [hr]; rfl
theorem anyRow_at {i : Nat} {p : Pr} (h : anyRow[i]? = some p) : p = any := by have := List.mem_of_getElem? h; simp at this; exact this
theorem agg_any {ps : List Pr} (h : ps.length = 12) : Pr.le (agg ps) (agg anyRow) := fun M w v ⟨cs, h1, h2, h3⟩ => ⟨cs, h1, h2, HL.of_at (by rw [h3.length, h]; rfl) fun i p v hp _ => by rw [anyRow_at hp]; trivial⟩
def headB (alg bits id : Int) (l : List Crt) : Bool := match l with | [] => true | c :: _ => decide (c.kalg = alg ∧ c.kbits = bits) && c.keyId == id
theorem headB_nil {alg bits id : Int} {l : List Crt} (h : l.length = 0) : headB alg bits id l = true := by rw [List.eq_nil_of_length_eq_zero h]; rfl
theorem headB_at {alg bits id : Int} {l : List Crt} {c : Crt} (h : l[0]? = some c) : headB alg bits id l = (decide (c.kalg = alg ∧ c.kbits = bits) && c.keyId == id) := by
 cases l with
 | nil => simp at h
 | cons a l => simp at h; subst h; rfl
theorem showsB_eq (alg bits id : Int) (l : List Crt) : showsB alg bits id l = (ofB alg bits 2 && keyB id && decide (l.length ≤ 8) && l.all validB && headB alg bits id l) := rfl

theorem w_use {a b : Int}  : Fun prog 265 [int a, int b] (agg [int a, int b]) := by
 refine fo func265 rfl ⟨rfl, rfl⟩ fun M0 w0 => (Tr.seq (Tr.regT ?_))
 refine Tl rfl rfl rfl rfl z24 zo24 (fun b1 => ?_)
 refine ap ?_
 refine ap ?_
 refine Tr.ret (Fin.retX1 rfl (RVal.cell 0 rfl rfl agg24 sz24 rfl (Lr)) ?_)
 · exact Lr
theorem w_Suites   : Fun prog 223 [] (slice 12 anyRows) := by
 refine fo func223 rfl ⟨rfl, rfl⟩ fun M0 w0 => ?_
 refine ac ?_
 refine Tr.seq (Tr.regT ?_)
 iterate 4 refine tp rfl (kc2 (w_use) rfl rfl rfl) ?_
 refine tp rfl (ok_build (rows := []) rfl bl24 zo24 trivial rfl) ?_
 refine Tl rfl rfl rfl rfl z24 zo24 (fun b1 => ?_)
 refine Tl rfl rfl rfl rfl z24 zo24 (fun b2 => ?_)
 refine Tl rfl rfl rfl rfl z24 zo24 (fun b3 => ?_)
 refine Tl rfl rfl rfl rfl z24 zo24 (fun b4 => ?_)
 refine Tl rfl rfl rfl rfl z24 zo24 (fun b5 => ?_)
 refine sf 4 1 ⟨rfl, rfl, rfl⟩ rfl rfl rfl rfl ?_
 refine sf 3 2 ⟨rfl, rfl, rfl⟩ rfl rfl rfl rfl ?_
 refine sf 2 3 ⟨rfl, rfl, rfl⟩ rfl rfl rfl rfl ?_
 refine sf 1 4 ⟨rfl, rfl, rfl⟩ rfl rfl rfl rfl ?_
 refine sf 0 5 ⟨rfl, rfl, rfl⟩ rfl rfl rfl rfl ?_
 refine TO.nil (Fin.go (wk5 1 2 3 4 5 rfl (Tr.seq (Tr.regT ?_))))
 iterate 5 refine tp rfl (kc2 (w_use) rfl rfl rfl) ?_
 refine Tl rfl rfl rfl rfl z24 zo24 (fun b6 => ?_)
 refine Tl rfl rfl rfl rfl z24 zo24 (fun b7 => ?_)
 refine Tl rfl rfl rfl rfl z24 zo24 (fun b8 => ?_)
 refine Tl rfl rfl rfl rfl z24 zo24 (fun b9 => ?_)
 refine Tl rfl rfl rfl rfl z24 zo24 (fun b10 => ?_)
 refine sf 4 6 ⟨rfl, rfl, rfl⟩ rfl rfl rfl rfl ?_
 refine sf 3 7 ⟨rfl, rfl, rfl⟩ rfl rfl rfl rfl ?_
 refine sf 2 8 ⟨rfl, rfl, rfl⟩ rfl rfl rfl rfl ?_
 refine sf 1 9 ⟨rfl, rfl, rfl⟩ rfl rfl rfl rfl ?_
 refine sf 0 10 ⟨rfl, rfl, rfl⟩ rfl rfl rfl rfl ?_
 refine TO.nil (Fin.go (wk10 1 2 3 4 5 6 7 8 9 10 rfl (Tr.seq (Tr.regT ?_))))
 iterate 4 refine tp rfl (kc2 (w_use) rfl rfl rfl) ?_
 refine Tl rfl rfl rfl rfl z24 zo24 (fun b11 => ?_)
 refine Tl rfl rfl rfl rfl z24 zo24 (fun b12 => ?_)
 refine Tl rfl rfl rfl rfl z24 zo24 (fun b13 => ?_)
 refine Tl rfl rfl rfl rfl z24 zo24 (fun b14 => ?_)
 refine sf 3 11 ⟨rfl, rfl, rfl⟩ rfl rfl rfl rfl ?_
 refine sf 2 12 ⟨rfl, rfl, rfl⟩ rfl rfl rfl rfl ?_
 refine sf 1 13 ⟨rfl, rfl, rfl⟩ rfl rfl rfl rfl ?_
 refine sf 0 14 ⟨rfl, rfl, rfl⟩ rfl rfl rfl rfl ?_
 refine TO.nil (Fin.go (wk14 1 2 3 4 5 6 7 8 9 10 11 12 13 14 rfl (Tr.seq (Tr.pad (Tr.rx (xo rfl (fun _ => ok_loadA rfl agg24 sz24 (vl rfl) rfl rfl) (xo rfl (fun _ => ok_loadA rfl agg24 sz24 (vl rfl) rfl rfl) (xo rfl (fun _ => kc2 (w_use) rfl rfl rfl) (xo rfl (fun _ => ok_loadA rfl agg24 sz24 (vl rfl) rfl rfl) (xo rfl (fun _ => oD) (xo rfl (fun _ => ok_loadA rfl agg24 sz24 (vl rfl) rfl rfl) (xo rfl (fun _ => ok_loadA rfl agg24 sz24 (vl rfl) rfl rfl) (xo rfl (fun _ => kc2 (w_use) rfl rfl rfl) ?_)))))))))))))
 refine xo rfl (fun _ => ok_loadA rfl agg24 sz24 (vl rfl) rfl rfl) (xo rfl (fun _ => oD) ?_)
 iterate 4 refine xo rfl (fun _ => ok_loadA rfl agg24 sz24 (vl rfl) rfl rfl) ?_
 refine xo rfl (fun _ => oD) (xo rfl (fun _ => kc2 (w_use) rfl rfl rfl) (xo rfl (fun _ => ok_loadA rfl agg24 sz24 (vl rfl) rfl rfl) (xo rfl (fun _ => ok_loadA rfl agg24 sz24 (vl rfl) rfl rfl) (xo rfl (fun _ => ok_loadA rfl agg24 sz24 (vl rfl) rfl rfl) (xo rfl (fun _ => oD) (xo rfl (fun _ => kc2 (w_use) rfl rfl rfl) (xo rfl (fun _ => ok_loadA rfl agg24 sz24 (vl rfl) rfl rfl) (xo rfl (fun _ => ok_loadA rfl agg24 sz24 (vl rfl) rfl rfl) (xo rfl (fun _ => ok_loadA rfl agg24 sz24 (vl rfl) rfl rfl) (xo rfl (fun _ => oD) ?_))))))))))
 iterate 4 refine xo rfl (fun _ => ok_loadA rfl agg24 sz24 (vl rfl) rfl rfl) ?_
 refine xo rfl (fun _ => oD) (xo rfl (fun _ => kc2 (w_use) rfl rfl rfl) (xo rfl (fun _ => ok_loadA rfl agg24 sz24 (vl rfl) rfl rfl) (xo rfl (fun _ => ok_loadA rfl agg24 sz24 (vl rfl) rfl rfl) (xo rfl (fun _ => ok_loadA rfl agg24 sz24 (vl rfl) rfl rfl) (xo rfl (fun _ => oD) ?_)))))
 iterate 4 refine xo rfl (fun _ => ok_loadA rfl agg24 sz24 (vl rfl) rfl rfl) ?_
 refine xo rfl (fun _ => oD) (xo rfl (fun _ => ok_loadA rfl agg24 sz24 (vl rfl) rfl rfl) (xo rfl (fun _ => ok_loadA rfl agg24 sz24 (vl rfl) rfl rfl) (xo rfl (fun _ => kc2 (w_use) rfl rfl rfl) (xo rfl (fun _ => kc2 (w_use) rfl rfl rfl) (xo rfl (fun _ => oD) ?_)))))
 iterate 4 refine xo rfl (fun _ => ok_loadA rfl agg24 sz24 (vl rfl) rfl rfl) ?_
 refine xo rfl (fun _ => oD) (xo rfl (fun _ => kc2 (w_use) rfl rfl rfl) (xo rfl (fun _ => ok_loadA rfl agg24 sz24 (vl rfl) rfl rfl) (xo rfl (fun _ => ok_loadA rfl agg24 sz24 (vl rfl) rfl rfl) (xo rfl (fun _ => ok_loadA rfl agg24 sz24 (vl rfl) rfl rfl) (xo rfl (fun _ => oD) ?_)))))
 iterate 4 refine xo rfl (fun _ => ok_loadA rfl agg24 sz24 (vl rfl) rfl rfl) ?_
 refine xo rfl (fun _ => oD) ?_
 iterate 4 refine xo rfl (fun _ => ok_loadA rfl agg24 sz24 (vl rfl) rfl rfl) ?_
 refine xo rfl (fun _ => oD) ?_
 iterate 4 refine xo rfl (fun _ => ok_loadA rfl agg24 sz24 (vl rfl) rfl rfl) ?_
 refine xo rfl (fun _ => oD) ?_
 iterate 4 refine xo rfl (fun _ => ok_loadA rfl agg24 sz24 (vl rfl) rfl rfl) ?_
 refine xo rfl (fun _ => oD) (xo rfl (fun _ => kc2 (w_use) rfl rfl rfl) (xo rfl (fun _ => ok_loadA rfl agg24 sz24 (vl rfl) rfl rfl) (xo rfl (fun _ => ok_loadA rfl agg24 sz24 (vl rfl) rfl rfl) (xo rfl (fun _ => ok_loadA rfl agg24 sz24 (vl rfl) rfl rfl) (xo rfl (fun _ => oD) (Cx.ef 0 rfl rfl (by decide) (ef_buildM (xs := [.tmp 35, .tmp 40, .tmp 45, .tmp 50, .tmp 55, .tmp 60, .tmp 65, .tmp 70, .tmp 75, .tmp 80, .tmp 85, .tmp 90, .tmp 95, .tmp 100, .tmp 105, .tmp 110]) (rows := anyRows) rfl rfl (by decide) rfl rfl underlying205 sz170 z170 rfl (by decide) ⟨⟨(by exact rfl), VL.le (vl rfl) (Pr.le_trans (agg_any rfl) (agg_cellsP _))⟩, ⟨⟨(by exact rfl), VL.le (vl rfl) (Pr.le_trans (agg_any rfl) (agg_cellsP _))⟩, ⟨⟨(by exact rfl), VL.le (vl rfl) (Pr.le_trans (agg_any rfl) (agg_cellsP _))⟩, ⟨⟨(by exact rfl), VL.le (vl rfl) (Pr.le_trans (agg_any rfl) (agg_cellsP _))⟩, ⟨⟨(by exact rfl), VL.le (vl rfl) (Pr.le_trans (agg_any rfl) (agg_cellsP _))⟩, ⟨⟨(by exact rfl), VL.le (vl rfl) (Pr.le_trans (agg_any rfl) (agg_cellsP _))⟩, ⟨⟨(by exact rfl), VL.le (vl rfl) (Pr.le_trans (agg_any rfl) (agg_cellsP _))⟩, ⟨⟨(by exact rfl), VL.le (vl rfl) (Pr.le_trans (agg_any rfl) (agg_cellsP _))⟩, ⟨⟨(by exact rfl), VL.le (vl rfl) (Pr.le_trans (agg_any rfl) (agg_cellsP _))⟩, ⟨⟨(by exact rfl), VL.le (vl rfl) (Pr.le_trans (agg_any rfl) (agg_cellsP _))⟩, ⟨⟨(by exact rfl), VL.le (vl rfl) (Pr.le_trans (agg_any rfl) (agg_cellsP _))⟩, ⟨⟨(by exact rfl), VL.le (vl rfl) (Pr.le_trans (agg_any rfl) (agg_cellsP _))⟩, ⟨⟨(by exact rfl), VL.le (vl rfl) (Pr.le_trans (agg_any rfl) (agg_cellsP _))⟩, ⟨⟨(by exact rfl), VL.le (vl rfl) (Pr.le_trans (agg_any rfl) (agg_cellsP _))⟩, ⟨⟨(by exact rfl), VL.le (vl rfl) (Pr.le_trans (agg_any rfl) (agg_cellsP _))⟩, ⟨⟨(by exact rfl), VL.le (vl rfl) (Pr.le_trans (agg_any rfl) (agg_cellsP _))⟩, trivial⟩⟩⟩⟩⟩⟩⟩⟩⟩⟩⟩⟩⟩⟩⟩⟩ (by decide) (by decide)) ?_))))))
 refine Cx.ef 0 rfl rfl (by decide) (ef_move rfl rfl (by decide) rfl (vl rfl)) ?_
 refine Cx.nil ⟨by kernel_rfl, ?_⟩
 refine FinX.open_ 0 15 rfl rfl (fun v1 => ?_)
 refine FinX.done al1 (Fin.go (wk1 15 rfl (Tr.seq (Tr.seq (Tr.openM 0 rfl fun b15 cap15 sp15 hv15 hg15 hm15 hs15 => ?_)))))
 subst hv15
 refine ac ?_
 refine co rfl (okb_len rfl underlying205 (Ka rfl)) ?_
 refine ac ?_
 refine Tr.block (Tr.loopw [(15, _), (113, _)] (kk2 rfl) (fun k : Nat => [(114, int ((k : Nat) : Int))]) (fun k : Nat => k ≤ (anyRows.length)) (fun k : Nat => (anyRows.length) - k) 0 (Nat.zero_le _) ⟨ke rfl, trivial⟩ ?_)
 rintro k hle_k
 refine ac ?_
 refine Tr.seq ?_
 refine Tr.cn rfl ?_ ?_ <;> intro h1 q1
 have hk_k : k < (anyRows.length) := lt_of_dec h1
 have hk16 : k < 16 := hk_k
 refine a2 ?_
 refine Tr.regT (tm rfl (tm rfl (tm rfl ?_)))
 refine tp rfl (ok_add rfl (vl rfl) (vl rfl) ?hin) ?_; case hin => unfold InI; omega
 refine tp rfl (okp_indexSl rfl underlying205 sz170 (Ka rfl) (vl rfl) (by omega) (by omega)) (tp rfl (okp_fieldAddr rfl fo170_0 (vl rfl)) ?_)
 refine TO.ef0 0 rfl rfl (ef_store rfl rfl (vl rfl) (VL.le (vl rfl) (one_any _)) sz3 rfl (by rw [List.length_append, flat_len any_len]; show _ ≤ 16 * 12 + _; omega) (put_any (any_at hk16 (by omega)))) ?_
 refine TO.nil ?_
 refine a2 ?_
 exact Fin.fam_same (k + 1) ⟨hk_k, by omega⟩ ⟨⟨_, rfl, int_succ k⟩, ke rfl, ke rfl, trivial⟩
 have he_k : k = (anyRows.length) := by have := ge_of_dec h1; omega
 subst he_k
 refine ac ?_
 refine Tr.seq ?_
 refine Tr.frzS (sz := 12) anyRows 0 15 rfl rfl (andIs_is _ _) any_len hg15 hm15 (by rw [List.length_map]; exact hs15) ?_
 refine a2 ?_
 · exact andIs_le _ _
theorem w_Suite {code : Int}  : Fun prog 189 [int code] (tup [agg anyRow, int (if 1 ≤ code ∧ code ≤ 16 then 0 else 8)]) := by
 refine fo func189 rfl ⟨rfl, rfl⟩ fun M0 w0 => ?_
 have hL : anyRows.length = 16 := rfl
 refine Tr.seq (Tr.regT ?_)
 refine Tl rfl rfl rfl rfl z170 zo170 (fun b1 => ?_)
 refine ap ?_
 refine Tr.seq (Tr.reg0 (co rfl (kc0 (w_Suites) rfl) ?_))
 refine ac ?_
 refine ag ?_ ?_ <;> intro h1 q1
 refine ac ?_
 refine Tr.cond rfl (fun _ => ?_) (fun h => nomatch h)
 refine Tr.seq (Tr.regT (tp rfl (ok_build (rows := []) rfl bl170 zo170 trivial rfl) (TO.store_all 0 rfl rfl rfl (vl rfl) (Va rfl) rfl sz170 rfl rfl (tm rfl (TO.nil (Fin.go (wk2 2 3 rfl (Tr.ret (Fin.then_ret (Fin.retX2 rfl (RVal.cell 0 rfl rfl agg170 sz170 rfl (Lr)) (RVal.tmp rfl (Lr)) ?_))))))))))
 · exact tup_le ⟨agg_any rfl, int_eq (by rw [if_neg]; simp_all; omega), trivial⟩
 refine ac ?_
 refine cy h1 rfl (ok_len rfl underlying205 (vl rfl)) ?_
 refine an ?_ ?_ <;> intro h2 q2
 refine ap ?_
 refine wk2 2 3 rfl (Tr.ret (Fin.then_ret (Fin.retX2 rfl (RVal.cell 0 rfl rfl agg170 sz170 rfl (Lr)) (RVal.tmp rfl (Lr)) ?_)))
 · exact tup_le ⟨agg_any rfl, int_eq (by rw [if_neg]; simp_all), trivial⟩
 have hin : 1 ≤ code ∧ code ≤ 16 := by omega
 refine ac ?_
 refine ap ?_
 refine tp rfl (ok_indexAddr rfl underlying205 sz170 (vl rfl) (vl rfl) (by omega) (any_rows (by omega))) ?_
 refine ap ?_
 refine wk2 2 3 rfl (Tr.ret (Fin.retX2 rfl (RVal.cell 0 rfl rfl agg170 sz170 rfl (Lr)) (RVal.tmp rfl (Lr)) ?_))
 · exact tup_le ⟨Lr, int_eq (by rw [if_pos hin]), trivial⟩
theorem w_Shows {alg bits id : Int} {l : List Crt} (hf : ∀ c ∈ l, c.fits) : Fun prog 145 [agg [int alg, int bits], int id, certs l] (bool (showsB alg bits id l)) := by
 refine fo func145 rfl ⟨rfl, rfl⟩ fun M0 w0 => (Tr.lenm 2 rfl fun hlm_2 => ?_)
 refine a2 ?_
 refine co rfl (kc1 (w_Valid) rfl rfl) ?_
 refine ag ?_ ?_ <;> intro h1 q1
 refine ac ?_
 refine wk4 1 2 3 27 rfl ?_
 refine a2 ?_
 · refine bool_eq ?_; rw [showsB_eq]; unfold ofB; simp_all; omega
 refine ac ?_
 refine cy h1 rfl (kc1 (w_Kind) rfl rfl) ?_
 refine ag ?_ ?_ <;> intro h2 q2
 refine ac ?_
 refine wk4 1 2 3 27 rfl ?_
 refine a2 ?_
 · refine bool_eq ?_; rw [showsB_eq]; unfold ofB; simp_all
 refine cym h2 rfl (cy h2 rfl (kc1 (w_CKey) rfl rfl) ?_)
 refine ag ?_ ?_ <;> intro h3 q3
 refine ac ?_
 refine wk4 1 2 3 27 rfl ?_
 refine a2 ?_
 · refine bool_eq ?_; rw [showsB_eq]; unfold ofB; simp_all
 refine ac ?_
 refine wk4 1 2 3 27 rfl ?_
 refine Tr.cn rfl ?_ ?_ <;> intro h4 q4
 refine a2 ?_
 · refine bool_eq ?_; rw [showsB_eq]; unfold ofB; simp_all; omega
 refine a2 ?_
 refine Tr.block (Tr.loopw [(1, _), (2, _), (3, _), (28, _), (29, _)] (kk5 rfl) (fun k : Nat => [(30, int ((k : Nat) : Int))]) (fun k : Nat => k ≤ (l).length ∧ (∀ j y, j < k → l[j]? = some y → (!validB y) = false)) (fun k : Nat => (l).length - k) 0 (⟨Nat.zero_le _, fun j y hj => absurd hj (by omega)⟩) ⟨ke rfl, trivial⟩ ?_)
 rintro k ⟨hle_k, hinv_k⟩
 refine ac ?_
 refine Tr.seq ?_
 refine Tr.cn rfl ?_ ?_ <;> intro h5 q5
 have hk_k : k < (l).length := lt_of_dec h5
 obtain ⟨c, hx_k⟩ := at_ hk_k
 have hcf := hf c (List.mem_of_getElem? hx_k)
 refine ac ?_
 refine Tr.seq (Tr.block (Tr.seq (Tr.regT (tp rfl (ok_indexAddr rfl underlying25 sz131 (vl rfl) (vl rfl) (by omega) (by exact row_at (by assumption))) ?_))))
 refine tp rfl (ok_loadA rfl agg131 sz131 (vl rfl) rfl rfl) ?_
 refine Tl rfl rfl rfl rfl z131 zo131 (fun b1 => ?_)
 refine sf 0 8 ⟨rfl, rfl, rfl⟩ rfl rfl rfl rfl ?_
 refine ao ?_
 · repeat' first | (refine bool_eq ?_; rw [showsB_eq]; unfold ofB; rw [all_hit (p := validB) hx_k (by simp_all)]; simp) | exact Fin.fam_same (k + 1) ⟨⟨hk_k, step_no (p := fun c => !validB c) hx_k (by simp_all) hinv_k⟩, by omega⟩ ⟨⟨_, rfl, int_succ k⟩, ke rfl, ke rfl, ke rfl, ke rfl, ke rfl, trivial⟩ | refine co rfl (kc1 (w_CCheck hcf) rfl rfl) ?_ | refine ac ?_ | (refine Tr.cn rfl ?_ ?_ <;> intro h q)
 have he_k : k = (l).length := by have := ge_of_dec h5; omega
 subst he_k
 have hall := all_end hinv_k
 refine ac ?_
 refine ag ?_ ?_ <;> intro h7 q7
 refine ac ?_
 refine wk1 6 rfl ?_
 refine ac ?_
 · refine bool_eq ?_; rw [showsB_eq]; unfold ofB; rw [hall, headB_nil (by simp_all)]; simp_all
 obtain ⟨c0, hc0⟩ := at_ (l := l) (k := 0) (by have := h7; simp at this; exact List.length_pos_iff.2 this)
 refine cym h7 rfl ?_
 refine cy h7 rfl (ok_indexAddr rfl underlying25 sz131 (vl rfl) (vl rfl) (by omega) (row_at (k := 0) hc0)) ?_
 refine ac ?_
 refine cy h7 rfl (ok_eq24 rfl (vl rfl) (vl rfl)) (cym h7 rfl ?_)
 refine Ch.cs 48 rfl ?_ ?_ <;> intro h8 q8
 refine cym h8 rfl ?_
 refine cy h8 rfl (ok_indexAddr rfl underlying25 sz131 (vl rfl) (vl rfl) (by omega) (row_at (k := 0) hc0)) ?_
 refine ac ?_
 refine wk1 6 rfl ?_
 refine ac ?_
 · refine bool_eq ?_; rw [showsB_eq]; unfold ofB; rw [hall, headB_at hc0]; clear hall hinv_k hf hc0; simp_all; omega
 refine ac ?_
 refine wk1 6 rfl ?_
 refine ac ?_
 · refine bool_eq ?_; rw [showsB_eq]; unfold ofB; rw [hall, headB_at hc0]; clear hall hinv_k hf hc0; simp_all
theorem w_ascends {l : List Int}  : Fun prog 144 [ints l] (bool (ascB l)) := by
 refine fo func144 rfl ⟨rfl, rfl⟩ fun M0 w0 => (Tr.lenm 0 rfl fun hlm_0 => ?_)
 refine a2 ?_
 refine Tr.block (Tr.loopw [(0, _), (5, _)] (kk2 rfl) (fun k : Nat => [(6, int ((k : Nat) : Int))]) (fun k : Nat => k ≤ (l).length ∧ (∀ j, j < k → ascAt l j = true)) (fun k : Nat => (l).length - k) 0 (⟨Nat.zero_le _, fun j hj => absurd hj (by omega)⟩) ⟨ke rfl, trivial⟩ ?_)
 rintro k ⟨hle_k, hinv_k⟩
 refine ac ?_
 refine Tr.seq ?_
 refine Tr.cn rfl ?_ ?_ <;> intro h1 q1
 have hk_k : k < (l).length := lt_of_dec h1
 obtain ⟨x, hx_k⟩ := at_ hk_k
 have hg := getD_at (d := (0 : Int)) hx_k
 refine a2 ?_
 refine ag ?_ ?_ <;> intro h2 q2
 have hk0 : 0 < k := by simpa using h2
 obtain ⟨y, hy⟩ := at_ (l := l) (k := k - 1) (by omega)
 have hgy := getD_at (d := (0 : Int)) hy
 · repeat' first | (refine bool_eq ?_; unfold ascB; exact (allI_hit (p := ascAt l) (k := k) (by omega) (by unfold ascAt; rw [hg, hgy]; simp_all; omega)).symm) | (exact Fin.fam_same (k + 1) ⟨⟨hk_k, allI_step hinv_k (by unfold ascAt; rw [hg, hgy]; simp_all)⟩, by omega⟩ ⟨⟨_, rfl, int_succ k⟩, ke rfl, ke rfl, trivial⟩) | (refine cy h2 rfl (ok_indexAddr rfl underlying22 sz3 (vl rfl) (vl rfl) (by omega) (by rw [show ((k : Nat) : Int) - 1 = ((k - 1 : Nat) : Int) by omega]; exact row_at hy)) ?_) | refine cy h2 rfl (ok_indexAddr rfl underlying22 sz3 (vl rfl) (vl rfl) (by omega) (row_at hx_k)) ?_ | refine ac ?_ | (refine Tr.cn rfl ?_ ?_ <;> intro h q)
 refine ac ?_
 refine wk4 0 5 6 22 rfl ?_
 refine a2 ?_
 exact Fin.fam_same (k + 1) ⟨⟨hk_k, allI_step hinv_k (by unfold ascAt; rw [hg]; simp_all)⟩, by omega⟩ ⟨⟨_, rfl, int_succ k⟩, ke rfl, ke rfl, trivial⟩
 have he_k : k = (l).length := by have := ge_of_dec h1; omega
 subst he_k
 refine a3 ?_
 · refine bool_eq ?_; unfold ascB; exact (allI_end hinv_k).symm
theorem w_hash {n : Int}  : Fun prog 150 [int n] (bool (hashB n)) := by
 refine fo func150 rfl ⟨rfl, rfl⟩ fun M0 w0 => ?_
 refine a2 ?_
 refine co rfl (kc1 (w_Kind) rfl rfl) ?_
 refine a2 ?_
 · exact Lr
theorem e_hash : Entry Tryz.prog 150 := ⟨_, Tryz.func150, rfl, rfl⟩
theorem w_suites {l : List Int}  : Fun prog 143 [ints l] (bool (suitesB l)) := by
 refine fo func143 rfl ⟨rfl, rfl⟩ fun M0 w0 => (Tr.lenm 0 rfl fun hlm_0 => ?_)
 refine a2 ?_
 refine Tr.block (Tr.loopw [(0, _), (7, _), (8, _)] (kk3 rfl) (fun k : Nat => [(9, int ((k : Nat) : Int))]) (fun k : Nat => k ≤ (l).length ∧ (∀ j, j < k → suiteAt l j = true)) (fun k : Nat => (l).length - k) 0 (⟨Nat.zero_le _, fun j hj => absurd hj (by omega)⟩) ⟨ke rfl, trivial⟩ ?_)
 rintro k ⟨hle_k, hinv_k⟩
 refine ac ?_
 refine Tr.seq ?_
 refine Tr.cn rfl ?_ ?_ <;> intro h1 q1
 have hk_k : k < (l).length := lt_of_dec h1
 obtain ⟨x, hx_k⟩ := at_ hk_k
 have hg := getD_at (d := (0 : Int)) hx_k
 refine a2 ?_
 refine co rfl (ok_indexAddr rfl underlying22 sz3 (vl rfl) (vl rfl) (by omega) (by exact row_at (by assumption))) ?_
 refine ac ?_
 refine ao ?_
 refine tp rfl (kc1 (w_Suite) rfl rfl) ?_
 refine ao ?_
 refine Tl rfl rfl rfl rfl z170 zo170 (fun b1 => ?_)
 refine sf 0 5 ⟨rfl, rfl, rfl⟩ rfl rfl rfl rfl ?_
 refine ao ?_
 refine wk7 0 3 4 6 7 8 9 rfl ?_
 refine ag ?_ ?_ <;> intro h2 q2
 have hnin : ¬ (1 ≤ x ∧ x ≤ 16) := by intro hh; rw [if_pos hh] at h2; exact absurd h2 (by decide)
 refine ac ?_
 refine wk5 0 7 8 9 27 rfl ?_
 refine a2 ?_
 · refine bool_eq ?_; unfold suitesB; exact (allI_hit (p := suiteAt l) (k := k) (by omega) (by unfold suiteAt; rw [hg]; rw [decide_eq_false hnin]; rfl)).symm
 have hin : 1 ≤ x ∧ x ≤ 16 := by refine Decidable.byContradiction fun hh => ?_; rw [if_neg hh] at h2; exact absurd h2 (by decide)
 refine ac ?_
 refine cy h2 rfl (ok_sliceTo rfl underlying22 sz3 (vl rfl) (vl rfl) (by omega) (by simp; omega)) ?_
 refine cym h2 rfl ?_
 · repeat' first | (refine bool_eq ?_; unfold suitesB; exact (allI_hit (p := suiteAt l) (k := k) (by omega) (by unfold suiteAt; rw [hg]; rw [decide_eq_true hin]; simp_all)).symm) | (exact Fin.fam_same (k + 1) ⟨⟨hk_k, allI_step hinv_k (by unfold suiteAt; rw [hg]; rw [decide_eq_true hin]; simp_all)⟩, by omega⟩ ⟨⟨_, rfl, int_succ k⟩, ke rfl, ke rfl, ke rfl, trivial⟩) | refine cy h2 rfl (ok_call rfl (w_ContainsI (l := l.take k) (v := x)) ⟨⟨_, rfl, Pr.le_of_eq (by rw [← List.map_take, Int.toNat_natCast])⟩, ke rfl, trivial⟩) ?_ | refine ac ?_ | (refine Tr.cn rfl ?_ ?_ <;> intro h q)
 have he_k : k = (l).length := by have := ge_of_dec h1; omega
 subst he_k
 refine a3 ?_
 · refine bool_eq ?_; unfold suitesB; exact (allI_end hinv_k).symm
theorem w_EC11 {p : Int → Bool} {n : Int}  : Fun prog 147 [int n, ref [clo prog (fun x : Int => [int x]) (fun x => bool (p x))]] (bool (!p n)) := by
 refine fo func147 rfl ⟨rfl, rfl⟩ fun M0 w0 => ?_
 refine a2 ?_
 refine co rfl (ok_callc n rfl (vl rfl) ⟨ke rfl, trivial⟩) ?_
 refine a2 ?_
 · exact Lr
theorem e_EC11 : Entry Tryz.prog 147 := ⟨_, Tryz.func147, rfl, rfl⟩
theorem w_EC1 {p : Int → Bool}  : Fun prog 146 [clo prog (fun x : Int => [int x]) (fun x => bool (p x))] (clo prog (fun x : Int => [int x]) (fun x => bool (!p x))) := by
 refine fo func146 rfl ⟨rfl, rfl⟩ fun M0 w0 => ?_
 refine a3 ?_
 · exact fn_le_clo e_EC11 (fun x => w_EC11 (p := p) (n := x))
theorem e_EC1 : Entry Tryz.prog 146 := ⟨_, Tryz.func146, rfl, rfl⟩
theorem w_ECheck {e : Ept} (hf : e.fits) : Fun prog 102 [agg (rowEp e)] (int (if eptB e then 0 else 19)) := by
 refine fo func102 rfl ⟨rfl, rfl⟩ fun M0 w0 => ?_
 refine a2 ?_
 refine co rfl (kc1 (w_Word hf.name) rfl rfl) ?_
 refine ag ?_ ?_ <;> intro h1 q1
 refine ac ?_
 refine wk2 1 32 rfl ?_
 refine a2 ?_
 · refine int_eq ?_; unfold eptB; simp_all
 refine ag ?_ ?_ <;> intro h2 q2
 refine ac ?_
 refine wk2 1 32 rfl ?_
 refine a2 ?_
 · refine int_eq ?_; unfold eptB; simp_all; omega
 refine ag ?_ ?_ <;> intro h3 q3
 refine ac ?_
 refine wk2 1 32 rfl ?_
 refine a2 ?_
 · refine int_eq ?_; unfold eptB; simp_all; omega
 refine ag ?_ ?_ <;> intro h4 q4
 refine ac ?_
 refine wk2 1 32 rfl ?_
 refine a2 ?_
 · refine int_eq ?_; unfold eptB; simp_all; omega
 refine ac ?_
 refine cy h4 rfl (kc1 (w_suites) rfl rfl) ?_
 refine ac ?_
 refine wk2 1 32 rfl ?_
 refine Tr.cn rfl ?_ ?_ <;> intro h5 q5
 refine a2 ?_
 · refine int_eq ?_; unfold eptB; simp_all
 refine ac ?_
 refine ag ?_ ?_ <;> intro h6 q6
 refine ac ?_
 refine wk2 1 54 rfl ?_
 refine a2 ?_
 · refine int_eq ?_; unfold eptB; simp_all; omega
 refine ag ?_ ?_ <;> intro h7 q7
 refine ac ?_
 refine wk2 1 54 rfl ?_
 refine a2 ?_
 · refine int_eq ?_; unfold eptB; simp_all; omega
 refine ac ?_
 refine cy h7 rfl (kc1 (w_ascends) rfl rfl) ?_
 refine ag ?_ ?_ <;> intro h8 q8
 refine ac ?_
 refine wk2 1 54 rfl ?_
 refine a2 ?_
 · refine int_eq ?_; unfold eptB; simp_all
 refine ac ?_
 refine cy h8 rfl (kc1 (w_ascends) rfl rfl) ?_
 refine ac ?_
 refine wk2 1 54 rfl ?_
 refine Tr.cn rfl ?_ ?_ <;> intro h9 q9
 refine a2 ?_
 · refine int_eq ?_; unfold eptB; simp_all
 refine a2 ?_
 refine Tr.block (Tr.loopw [(1, _), (56, _), (57, _)] (kk3 rfl) (fun k : Nat => [(58, int ((k : Nat) : Int))]) (fun k : Nat => k ≤ (e.ids).length ∧ (∀ j y, j < k → e.ids[j]? = some y → (!idB y) = false)) (fun k : Nat => (e.ids).length - k) 0 (⟨Nat.zero_le _, fun j y hj => absurd hj (by omega)⟩) ⟨ke rfl, trivial⟩ ?_)
 rintro k ⟨hle_k, hinv_k⟩
 refine ac ?_
 refine Tr.seq ?_
 refine Tr.cn rfl ?_ ?_ <;> intro h10 q10
 have hk_k : k < (e.ids).length := lt_of_dec h10
 obtain ⟨x, hx_k⟩ := at_ hk_k
 have hxf := hf.ids x (List.mem_of_getElem? hx_k)
 refine ac ?_
 refine Tr.seq (Tr.block (Tr.seq (Tr.regT (tp rfl (ok_indexAddr rfl underlying30 sz27 (vl rfl) (vl rfl) (by omega) (by exact row_at (by assumption))) ?_))))
 refine tp rfl (ok_loadA rfl agg27 sz27 (vl rfl) rfl rfl) ?_
 refine Tl rfl rfl rfl rfl z27 zo27 (fun b1 => ?_)
 refine sf 0 4 ⟨rfl, rfl, rfl⟩ rfl rfl rfl rfl ?_
 refine ao ?_
 · repeat' first | (refine int_eq ?_; unfold eptB; rw [all_hit (p := idB) hx_k (by unfold idB; simp_all)]; simp) | (exact Fin.fam_same (k + 1) ⟨⟨hk_k, step_no (p := fun c => !idB c) hx_k (by unfold idB; simp_all) hinv_k⟩, by omega⟩ ⟨⟨_, rfl, int_succ k⟩, ke rfl, ke rfl, ke rfl, trivial⟩) | refine co rfl (kc3 (w_Shows hxf) rfl rfl rfl rfl) ?_ | refine ac ?_ | (refine Tr.cn rfl ?_ ?_ <;> intro h q)
 have he_k : k = (e.ids).length := by have := ge_of_dec h10; omega
 subst he_k
 have hall := all_end hinv_k
 refine a2 ?_
 refine Tr.seq (Tr.seq (Tr.re 5 rfl (fn_le_clo (dom := fun p : Int → Bool => [clo prog (fun x : Int => [int x]) (fun x => bool (p x))]) (res := fun p => clo prog (fun x : Int => [int x]) (fun x => bool (!p x))) e_EC1 (fun p => w_EC1 (p := p))) ?_))
 refine ac ?_
 refine co rfl (ok_callc keyB rfl (vl rfl) ⟨⟨_, rfl, fn_le_clo (dom := fun n : Int => [int n]) (res := fun n => bool (keyB n)) e_CKey (fun n => w_CKey (n := n))⟩, trivial⟩) ?_
 refine co rfl (kc2 (w_ContainsFuncI (l := e.anchors) (p := fun n => !keyB n)) rfl rfl rfl) ?_
 refine cm rfl ?_
 · repeat' first | (refine int_eq ?_; unfold eptB; rw [if_neg]; intro hh; simp only [Bool.and_eq_true] at hh; have g1 := hh.1.2; have g2 := hh.2; clear hh hinv_k hf hall; simp only [any_not, g1, g2, Bool.not_true, Bool.false_eq_true] at *) | (refine int_eq ?_; unfold eptB; simp_all; omega) | refine cy h rfl (ok_callc hashB rfl (vl rfl) ⟨⟨_, rfl, fn_le_clo (dom := fun n : Int => [int n]) (res := fun n => bool (hashB n)) e_hash (fun n => w_hash (n := n))⟩, trivial⟩) ?_ | refine cy h rfl (kc2 (w_ContainsFuncI (l := e.hashes) (p := fun n => !hashB n)) rfl rfl rfl) ?_ | refine ac ?_ | (refine Tr.cn rfl ?_ ?_ <;> intro h q) | (refine Ch.cg rfl rfl rfl ?_ ?_ <;> intro h q)
theorem len_pos' {β γ : Type} {f : β → γ} {l : List β} (h : l ≠ []) : 0 < (l.map f).length := by rw [List.length_map]; exact List.length_pos_iff.2 h
theorem w_CloneNi {l : List (Int)} (h0 : l ≠ []) (hl : l.length ≤ 1000000) : FunM prog 164 [slice 1 (l.map (fun n : Int => [int n]))] (lens (l.map (fun n : Int => [int n])).length) (noRes) (fun v => mutRes 3 1 (l.map (fun n : Int => [int n])) v) := by
 refine FunM.of func164 rfl rfl (by exact Nb rfl) fun M0 w0 S rs M1 w1 => ?_
 have hpos := len_pos' (f := (fun n : Int => [int n])) h0
 refine a2 ?_
 refine co rfl (ok_eqnil rfl underlying22 (vl rfl)) ?_
 refine ac ?_
 refine Tr.ex 4 rfl (fun z1 => Tr.fact 4 rfl fun hz1 => ?_)
 refine Tr.cn rfl ?_ ?_ <;> intro h1 q1
 exfalso; have := hz1 h1; simp_all
 refine ac ?_
 refine ap ?_
 refine TO.pad ?_
 refine TO.efs 0 rfl rfl (by decide) (ef_appvoid rfl rfl (by decide) rfl underlying22 sz3 by3 z3 rfl (by decide) (by decide) (vl rfl) (vl rfl) hpos (by rw [List.length_map]; unfold maxLen; omega) (by rw [List.length_map]; omega)) (fun v1 => ?_)
 refine ap ?_
 refine Tr.ret (Fin.drop 1 ?_)
 refine Fin.retM1 rfl rfl ?_ (by intro _ _ _ h; rw [h.1])
 · exact andIs_le _ _
theorem w_CloneEi   : Fun prog 164 [slice 1 []] (full 1 []) := by
 refine fo func164 rfl ⟨rfl, rfl⟩ fun M0 w0 => ?_
 refine a2 ?_
 refine co rfl (ok_eqnil rfl underlying22 (vl rfl)) ?_
 refine ac ?_
 refine Tr.ex 4 rfl (fun z1 => Tr.fact 4 rfl fun hz1 => ?_)
 · repeat' first | exact nil_full 1 | exact Lr | refine co rfl (ok_appEE rfl underlying22 sz3 (vl rfl) (vl rfl)) ?_ | refine ac ?_ | (refine Tr.cn rfl ?_ ?_ <;> intro h q)
theorem w_CloneFi {l : List (Int)} (hl : l.length ≤ 1000000) : Fun Tryz.prog 164 [slice 1 (l.map (fun n : Int => [int n]))] (slice 1 (l.map (fun n : Int => [int n]))) := by
 by_cases h0 : l = []
 · subst h0; exact Fun.le w_CloneEi (fun _ _ _ h => h) (full_le _ _)
 · exact (FunM.frzN (rows := (l.map (fun n : Int => [int n]))) (map_rows fun _ => rfl) (w_CloneNi h0 hl)).pure
theorem w_CloneWi {l : List (Int)} (hl : l.length ≤ 1000000) : FunM Tryz.prog 164 [slice 1 (l.map (fun n : Int => [int n]))] (lens l.length) noRes (fun v => oweRes 3 1 (l.map (fun n : Int => [int n])) v) := by
 by_cases h0 : l = []
 · subst h0; exact FunM.owe_void w_CloneEi
 ·
  have := FunM.owe_of_mut (by intro h; exact h0 (by simpa using h)) (w_CloneNi h0 hl)
  rwa [List.length_map] at this

theorem w_CloneNn {l : List (Idn)} (h0 : l ≠ []) (hl : l.length ≤ 1000000) : FunM prog 165 [slice 4 (l.map rowId)] (lens (l.map rowId).length) (noRes) (fun v => mutRes 27 4 (l.map rowId) v) := by
 refine FunM.of func165 rfl rfl (by exact Nb rfl) fun M0 w0 S rs M1 w1 => ?_
 have hpos := len_pos' (f := rowId) h0
 refine a2 ?_
 refine co rfl (ok_eqnil rfl underlying30 (vl rfl)) ?_
 refine ac ?_
 refine Tr.ex 4 rfl (fun z1 => Tr.fact 4 rfl fun hz1 => ?_)
 refine Tr.cn rfl ?_ ?_ <;> intro h1 q1
 exfalso; have := hz1 h1; simp_all
 refine ac ?_
 refine ap ?_
 refine TO.pad ?_
 refine TO.efs 0 rfl rfl (by decide) (ef_appvoid rfl rfl (by decide) rfl underlying30 sz27 by27 z27 rfl (by decide) (by decide) (vl rfl) (vl rfl) hpos (by rw [List.length_map]; unfold maxLen; omega) (by rw [List.length_map]; omega)) (fun v1 => ?_)
 refine ap ?_
 refine Tr.ret (Fin.drop 1 ?_)
 refine Fin.retM1 rfl rfl ?_ (by intro _ _ _ h; rw [h.1])
 · exact andIs_le _ _
theorem w_CloneEn   : Fun prog 165 [slice 4 []] (full 4 []) := by
 refine fo func165 rfl ⟨rfl, rfl⟩ fun M0 w0 => ?_
 refine a2 ?_
 refine co rfl (ok_eqnil rfl underlying30 (vl rfl)) ?_
 refine ac ?_
 refine Tr.ex 4 rfl (fun z1 => Tr.fact 4 rfl fun hz1 => ?_)
 · repeat' first | exact nil_full 4 | exact Lr | refine co rfl (ok_appEE rfl underlying30 sz27 (vl rfl) (vl rfl)) ?_ | refine ac ?_ | (refine Tr.cn rfl ?_ ?_ <;> intro h q)
theorem w_CloneWn {l : List (Idn)} (hl : l.length ≤ 1000000) : FunM Tryz.prog 165 [slice 4 (l.map rowId)] (lens l.length) noRes (fun v => oweRes 27 4 (l.map rowId) v) := by
 by_cases h0 : l = []
 · subst h0; exact FunM.owe_void w_CloneEn
 ·
  have := FunM.owe_of_mut (by intro h; exact h0 (by simpa using h)) (w_CloneNn h0 hl)
  rwa [List.length_map] at this

theorem w_CloneNc {l : List (Crt)} (h0 : l ≠ []) (hl : l.length ≤ 925904528640) : FunM prog 204 [slice 15 (l.map rowCr)] (lens (l.map rowCr).length) (noRes) (fun v => mutRes 131 15 (l.map rowCr) v) := by
 refine FunM.of func204 rfl rfl (by exact Nb rfl) fun M0 w0 S rs M1 w1 => ?_
 have hpos := len_pos' (f := rowCr) h0
 refine a2 ?_
 refine co rfl (ok_eqnil rfl underlying25 (vl rfl)) ?_
 refine ac ?_
 refine Tr.ex 4 rfl (fun z1 => Tr.fact 4 rfl fun hz1 => ?_)
 refine Tr.cn rfl ?_ ?_ <;> intro h1 q1
 exfalso; have := hz1 h1; simp_all
 refine ac ?_
 refine ap ?_
 refine TO.pad ?_
 refine TO.efs 0 rfl rfl (by decide) (ef_appvoid rfl rfl (by decide) rfl underlying25 sz131 by131 z131 rfl (by decide) (by decide) (vl rfl) (vl rfl) hpos (by rw [List.length_map]; unfold maxLen; omega) (by rw [List.length_map]; omega)) (fun v1 => ?_)
 refine ap ?_
 refine Tr.ret (Fin.drop 1 ?_)
 refine Fin.retM1 rfl rfl ?_ (by intro _ _ _ h; rw [h.1])
 · exact andIs_le _ _
theorem w_CloneEc   : Fun prog 204 [slice 15 []] (full 15 []) := by
 refine fo func204 rfl ⟨rfl, rfl⟩ fun M0 w0 => ?_
 refine a2 ?_
 refine co rfl (ok_eqnil rfl underlying25 (vl rfl)) ?_
 refine ac ?_
 refine Tr.ex 4 rfl (fun z1 => Tr.fact 4 rfl fun hz1 => ?_)
 · repeat' first | exact nil_full 15 | exact Lr | refine co rfl (ok_appEE rfl underlying25 sz131 (vl rfl) (vl rfl)) ?_ | refine ac ?_ | (refine Tr.cn rfl ?_ ?_ <;> intro h q)
theorem w_CloneWc {l : List (Crt)} (hl : l.length ≤ 925904528640) : FunM Tryz.prog 204 [slice 15 (l.map rowCr)] (lens l.length) noRes (fun v => oweRes 131 15 (l.map rowCr) v) := by
 by_cases h0 : l = []
 · subst h0; exact FunM.owe_void w_CloneEc
 ·
  have := FunM.owe_of_mut (by intro h; exact h0 (by simpa using h)) (w_CloneNc h0 hl)
  rwa [List.length_map] at this

theorem w_CloneNs {l : List (List UInt8)} (h0 : l ≠ []) (hl : l.length ≤ 8796093022208) : FunM prog 205 [slice 1 (l.map (fun t : List UInt8 => [str t]))] (lens (l.map (fun t : List UInt8 => [str t])).length) (noRes) (fun v => mutRes 9 1 (l.map (fun t : List UInt8 => [str t])) v) := by
 refine FunM.of func205 rfl rfl (by exact Nb rfl) fun M0 w0 S rs M1 w1 => ?_
 have hpos := len_pos' (f := (fun t : List UInt8 => [str t])) h0
 refine a2 ?_
 refine co rfl (ok_eqnil rfl underlying74 (vl rfl)) ?_
 refine ac ?_
 refine Tr.ex 4 rfl (fun z1 => Tr.fact 4 rfl fun hz1 => ?_)
 refine Tr.cn rfl ?_ ?_ <;> intro h1 q1
 exfalso; have := hz1 h1; simp_all
 refine ac ?_
 refine ap ?_
 refine TO.pad ?_
 refine TO.efs 0 rfl rfl (by decide) (ef_appvoid rfl rfl (by decide) rfl underlying74 sz9 by9 z9 rfl (by decide) (by decide) (vl rfl) (vl rfl) hpos (by rw [List.length_map]; unfold maxLen; omega) (by rw [List.length_map]; omega)) (fun v1 => ?_)
 refine ap ?_
 refine Tr.ret (Fin.drop 1 ?_)
 refine Fin.retM1 rfl rfl ?_ (by intro _ _ _ h; rw [h.1])
 · exact andIs_le _ _
theorem w_CloneEs   : Fun prog 205 [slice 1 []] (full 1 []) := by
 refine fo func205 rfl ⟨rfl, rfl⟩ fun M0 w0 => ?_
 refine a2 ?_
 refine co rfl (ok_eqnil rfl underlying74 (vl rfl)) ?_
 refine ac ?_
 refine Tr.ex 4 rfl (fun z1 => Tr.fact 4 rfl fun hz1 => ?_)
 · repeat' first | exact nil_full 1 | exact Lr | refine co rfl (ok_appEE rfl underlying74 sz9 (vl rfl) (vl rfl)) ?_ | refine ac ?_ | (refine Tr.cn rfl ?_ ?_ <;> intro h q)
theorem w_CloneFs {l : List (List UInt8)} (hl : l.length ≤ 8796093022208) : Fun Tryz.prog 205 [slice 1 (l.map (fun t : List UInt8 => [str t]))] (slice 1 (l.map (fun t : List UInt8 => [str t]))) := by
 by_cases h0 : l = []
 · subst h0; exact Fun.le w_CloneEs (fun _ _ _ h => h) (full_le _ _)
 · exact (FunM.frzN (rows := (l.map (fun t : List UInt8 => [str t]))) (map_rows fun _ => rfl) (w_CloneNs h0 hl)).pure
theorem w_IdxN {l : List Idn} {p : Idn → Bool}  : Fun prog 259 [idns l, clo prog (fun x : Idn => [agg (rowId x)]) (fun x => bool (p x))] (int (idx p l)) := by
 refine fo func259 rfl ⟨rfl, rfl⟩ fun M0 w0 => (Tr.lenm 0 rfl fun hlm_0 => ?_)
 refine a2 ?_
 refine Tr.block (Tr.loopw [(0, _), (1, _), (7, _)] (kk3 rfl) (fun k : Nat => [(8, int ((k : Nat) : Int))]) (fun k : Nat => k ≤ (l).length ∧ (∀ j y, j < k → l[j]? = some y → p y = false)) (fun k : Nat => (l).length - k) 0 (⟨Nat.zero_le _, fun j y hj => absurd hj (by omega)⟩) ⟨ke rfl, trivial⟩ ?_)
 rintro k ⟨hle_k, hinv_k⟩
 refine ac ?_
 refine Tr.seq ?_
 refine Tr.cn rfl ?_ ?_ <;> intro h1 q1
 have hk_k : k < (l).length := lt_of_dec h1
 obtain ⟨x, hx_k⟩ := at_ hk_k
 · repeat' first | exact int_eq (idx_found hx_k (by assumption) hinv_k) | exact Fin.fam_same (k + 1) ⟨⟨hk_k, step_no hx_k (by assumption) hinv_k⟩, by omega⟩ ⟨⟨_, rfl, int_succ k⟩, ke rfl, ke rfl, ke rfl, trivial⟩ | refine co rfl (ok_indexAddr rfl underlying30 sz27 (vl rfl) (vl rfl) (by omega) (by exact row_at (by assumption))) ?_ | refine co rfl (ok_loadA rfl agg27 sz27 (vl rfl) rfl rfl) (co rfl (ok_callc x rfl (vl rfl) ⟨ke rfl, trivial⟩) ?_) | refine ac ?_ | (refine Tr.cn rfl ?_ ?_ <;> intro h q)
 have he_k : k = (l).length := by have := ge_of_dec h1; omega
 subst he_k
 refine a3 ?_
 · exact int_eq (idx_none hinv_k)
theorem w_HasN {l : List Idn} {p : Idn → Bool}  : Fun prog 212 [idns l, clo prog (fun x : Idn => [agg (rowId x)]) (fun x => bool (p x))] (bool (l.any p)) := by
 refine fo func212 rfl ⟨rfl, rfl⟩ fun M0 w0 => ?_
 refine a2 ?_
 refine co rfl (kc2 (w_IdxN) rfl rfl rfl) ?_
 refine a2 ?_
 · exact bool_eq (idx_any p l)
theorem w_DelBi {l : List (Int)} {b0 cap i : Nat} {sp : List Value} (hi : i < l.length) (hl : l.length ≤ 1000000) (hc : l.length ≤ cap) (hm : cap ≤ maxLen) (hq : sp.length = (cap - l.length) * 1) : FunM prog 208 [andIs (.slice (some ⟨b0, 0, none⟩) l.length cap) (lens l.length), int ((i : Nat) : Int), int (((i : Nat) : Int) + 1)] (lens (l.length - 1)) (cellsRes true b0 3 ((l.map (fun n : Int => [int n])).flatten ++ sp.map is)) (fun v => ownRes 3 1 ((l.eraseIdx i).map (fun n : Int => [int n])) v) := by
 refine FunM.of func208 rfl rfl (by exact Nb rfl) fun M0 w0 S rs M1 w1 => ?_
 have hAl : ((l.map (fun n : Int => [int n])).flatten).length = l.length * 1 := by rw [flat_len (sz := 1) (map_rows fun _ => rfl), List.length_map]
 have e1 : (((i : Nat) : Int) + (1 : Int)).toNat = i + 1 := by omega
 have e2 : ((i : Nat) : Int).toNat = i := by omega
 refine a2 ?_
 refine co rfl (okb_len rfl underlying22 (Ka rfl)) (co rfl (okb_sliceThree rfl underlying22 sz3 (Ka rfl) (vl rfl) (vl rfl) (vl rfl) (by omega) (by omega) (by omega) (by omega)) ?_)
 refine ac ?_
 refine an ?_ ?_ <;> intro h1 q1
 exfalso; have := q1; omega
 refine a2 ?_
 refine co rfl (okb_len rfl underlying22 (Ka rfl)) ?_
 refine ac ?_
 refine Tr.seq (Tr.regOne mixed 6 (by kernel_rfl) (ChOne.op rfl rfl (by decide) (ok_move rfl (vl rfl)) (ChOne.op rfl rfl (by decide) (ok_move rfl (vl rfl)) (ChOne.op rfl rfl (by decide) (okb_sliceTo rfl underlying22 sz3 (Ka rfl) (vl rfl) (by omega) (by omega) (by omega) (by omega)) (ChOne.op rfl rfl (by decide) (ok_move rfl (vl rfl)) (ChOne.op rfl rfl (by decide) (ok_move rfl (vl rfl)) (ChOne.op rfl rfl (by decide) (okb_sliceTail rfl underlying22 sz3 (Ka rfl) (vl rfl) (by omega) (by omega) (by omega)) ?_)))))))
 refine ChOne.turn _ rfl (by decide) (turn_ef 0 rfl (ef_appTail rfl rfl (by decide) rfl underlying22 sz3 (vl rfl) (vl rfl) (by omega) (by rw [List.length_append, hAl]; omega) (by rw [List.length_append, hAl]; omega) rfl)) ?_
 refine ac ?_
 refine wk2 0 7 rfl ?_
 refine ap ?_
 refine tp rfl (okb_len rfl underlying22 (vl rfl)) (tm rfl (tp rfl (okb_sliceTwo rfl underlying22 sz3 (vl rfl) (vl rfl) (vl rfl) (by omega) (by omega) (by omega)) ?_))
 refine TO.ef0 0 rfl rfl (ef_clear rfl rfl underlying22 sz3 z3 rfl (by decide) (by decide) (vl rfl) (by omega) (by simp only [List.length_append, List.length_take, List.length_drop, List.length_map, hAl]; omega) rfl) ?_
 refine ap ?_
 refine ac ?_
 refine Tr.ret ?_
 refine Fin.closeH (sz := 1) 0 rfl (rows := ((l.eraseIdx i).map (fun n : Int => [int n]))) (sp := [.int .i64 0] ++ sp) (m := i + (l.length - (i + 1))) ((del_place (N := l.length * 1) (a := i * 1) (z := 1) (S := sp.map is) hAl (by omega) (by omega) (by omega) (by omega) (by omega) (by omega) (by omega) (B := _) rfl).trans (by rw [List.map_append, ← flat_delN (f := (fun n : Int => [int n])) (sz := 1) (fun _ => rfl), Nat.succ_mul, rep1] <;> omega)) (by rw [List.length_map, List.length_eraseIdx, if_pos hi]; omega) (by omega) hm (by rw [List.length_append, hq]; simp only [List.length_cons, List.length_nil]; omega) ?_
 refine Fin.retM1 rfl rfl ?_ (by rintro _ _ _ rfl; rfl)
 · rintro _ _ _ rfl; exact ⟨_, _, by congr 1; omega⟩
theorem e_DelBi : Entry Tryz.prog 208 := ⟨_, Tryz.func208, rfl, rfl⟩
theorem w_DelBn {l : List (Idn)} {b0 cap i : Nat} {sp : List Value} (hi : i < l.length) (hl : l.length ≤ 1000000) (hc : l.length ≤ cap) (hm : cap ≤ maxLen) (hq : sp.length = (cap - l.length) * 4) : FunM prog 214 [andIs (.slice (some ⟨b0, 0, none⟩) l.length cap) (lens l.length), int ((i : Nat) : Int), int (((i : Nat) : Int) + 1)] (lens (l.length - 1)) (cellsRes true b0 27 ((l.map rowId).flatten ++ sp.map is)) (fun v => ownRes 27 4 ((l.eraseIdx i).map rowId) v) := by
 refine FunM.of func214 rfl rfl (by exact Nb rfl) fun M0 w0 S rs M1 w1 => ?_
 have hAl : ((l.map rowId).flatten).length = l.length * 4 := by rw [flat_len (sz := 4) (map_rows fun _ => rfl), List.length_map]
 have e1 : (((i : Nat) : Int) + (1 : Int)).toNat = i + 1 := by omega
 have e2 : ((i : Nat) : Int).toNat = i := by omega
 refine a2 ?_
 refine co rfl (okb_len rfl underlying30 (Ka rfl)) (co rfl (okb_sliceThree rfl underlying30 sz27 (Ka rfl) (vl rfl) (vl rfl) (vl rfl) (by omega) (by omega) (by omega) (by omega)) ?_)
 refine ac ?_
 refine an ?_ ?_ <;> intro h1 q1
 exfalso; have := q1; omega
 refine a2 ?_
 refine co rfl (okb_len rfl underlying30 (Ka rfl)) ?_
 refine ac ?_
 refine Tr.seq (Tr.regOne mixed 6 (by kernel_rfl) (ChOne.op rfl rfl (by decide) (ok_move rfl (vl rfl)) (ChOne.op rfl rfl (by decide) (ok_move rfl (vl rfl)) (ChOne.op rfl rfl (by decide) (okb_sliceTo rfl underlying30 sz27 (Ka rfl) (vl rfl) (by omega) (by omega) (by omega) (by omega)) (ChOne.op rfl rfl (by decide) (ok_move rfl (vl rfl)) (ChOne.op rfl rfl (by decide) (ok_move rfl (vl rfl)) (ChOne.op rfl rfl (by decide) (okb_sliceTail rfl underlying30 sz27 (Ka rfl) (vl rfl) (by omega) (by omega) (by omega)) ?_)))))))
 refine ChOne.turn _ rfl (by decide) (turn_ef 0 rfl (ef_appTail rfl rfl (by decide) rfl underlying30 sz27 (vl rfl) (vl rfl) (by omega) (by rw [List.length_append, hAl]; omega) (by rw [List.length_append, hAl]; omega) rfl)) ?_
 refine ac ?_
 refine wk2 0 7 rfl ?_
 refine ap ?_
 refine tp rfl (okb_len rfl underlying30 (vl rfl)) (tm rfl (tp rfl (okb_sliceTwo rfl underlying30 sz27 (vl rfl) (vl rfl) (vl rfl) (by omega) (by omega) (by omega)) ?_))
 refine TO.ef0 0 rfl rfl (ef_clear rfl rfl underlying30 sz27 z27 rfl (by decide) (by decide) (vl rfl) (by omega) (by simp only [List.length_append, List.length_take, List.length_drop, List.length_map, hAl]; omega) rfl) ?_
 refine ap ?_
 refine ac ?_
 refine Tr.ret ?_
 refine Fin.closeH (sz := 4) 0 rfl (rows := ((l.eraseIdx i).map rowId)) (sp := [.int .i64 0, .int .i64 0, .int .i64 0, .slice none 0 0] ++ sp) (m := i + (l.length - (i + 1))) ((del_place (N := l.length * 4) (a := i * 4) (z := 4) (S := sp.map is) hAl (by omega) (by omega) (by omega) (by omega) (by omega) (by omega) (by omega) (B := _) rfl).trans (by rw [List.map_append, ← flat_delN (f := rowId) (sz := 4) (fun _ => rfl), Nat.succ_mul, rep1] <;> omega)) (by rw [List.length_map, List.length_eraseIdx, if_pos hi]; omega) (by omega) hm (by rw [List.length_append, hq]; simp only [List.length_cons, List.length_nil]; omega) ?_
 refine Fin.retM1 rfl rfl ?_ (by rintro _ _ _ rfl; rfl)
 · rintro _ _ _ rfl; exact ⟨_, _, by congr 1; omega⟩
theorem e_DelBn : Entry Tryz.prog 214 := ⟨_, Tryz.func214, rfl, rfl⟩
theorem w_InsBi {l : List (Int)} {x : Int} {b0 cap i : Nat} {sp : List Value} (hi : i ≤ l.length) (hl : l.length ≤ 1000000) (hc : l.length ≤ cap) (hm : cap ≤ maxLen) (hq : sp.length = (cap - l.length) * 1) : FunM prog 258 [andIs (.slice (some ⟨b0, 0, none⟩) l.length cap) (lens l.length), int ((i : Nat) : Int), slice 1 [[int x]]] (lens (l.length + 1)) (cellsRes true b0 3 ((l.map (fun n : Int => [int n])).flatten ++ sp.map is)) (fun v => ownRes 3 1 ((l.take i ++ [x] ++ l.drop i).map (fun n : Int => [int n])) v) := by
 refine FunM.of func258 rfl rfl (by exact Nb rfl) fun M0 w0 S rs M1 w1 => ?_
 have hv2 : ([[int x]] : List (List Pr)).flatten.length = 1 := rfl
 have hv1 : ([[int x]] : List (List Pr)).length = 1 := rfl
 have hAl : ((l.map (fun n : Int => [int n])).flatten).length = l.length * 1 := by rw [flat_len (sz := 1) (map_rows fun _ => rfl), List.length_map]
 have e1 : (((i : Nat) : Int) + (1 : Int)).toNat = i + 1 := by omega
 have e2 : ((i : Nat) : Int).toNat = i := by omega
 refine a2 ?_
 refine co rfl (okb_sliceAny rfl underlying22 sz3 (Ka rfl) (vl rfl) (by omega) (by omega) (by omega)) ?_
 refine a2 ?_
 refine co rfl (ok_len rfl underlying22 (vl rfl)) ?_
 refine ac ?_
 refine an ?_ ?_ <;> intro h1 q1
 simp at h1
 refine a2 ?_
 refine co rfl (okb_len rfl underlying22 (Ka rfl)) ?_
 refine a2 ?_
 refine wk6 0 1 2 7 8 22 rfl ?_
 refine Tr.cn rfl ?_ ?_ <;> intro h2 q2
 refine Tr.seq (Tr.closeG (sz := 1) 0 rfl (rows := l.map (fun n : Int => [int n])) (sp := sp) rfl (by simp) hc hm hq ?_)
 refine ap ?_
 refine TO.efs 0 rfl rfl (by decide) (ef_appmut rfl rfl (by decide) rfl underlying22 sz3 by3 z3 rfl (by decide) (by decide) (vl rfl) (vl rfl) (map_rows fun _ => rfl) (Nat.zero_lt_succ _) (by simp only [List.length_map, List.length_cons, List.length_nil]; unfold maxLen; omega) (by simp only [List.length_map, List.length_cons, List.length_nil]; omega)) (fun v1 => ?_)
 refine ap ?_
 refine Tr.ret (Fin.then_ret ?_)
 refine Fin.retM1 rfl rfl ?_ (by rintro _ _ _ ⟨rfl, _⟩; rw [show i = l.length by omega, List.take_length, List.drop_length, List.append_nil, List.map_append]; rfl)
 · exact Pr.le_trans (andIs_le _ _) (Pr.le_of_eq (by simp))
 refine a2 ?_
 refine co rfl (okb_cap rfl underlying22 (Ka rfl)) ?_
 refine an ?_ ?_ <;> intro h3 q3
 refine ap ?_
 refine tp rfl (okb_sliceTo rfl underlying22 sz3 (Ka rfl) (vl rfl) (by omega) (by omega) (by omega) (by omega)) ?_
 refine ap ?_
 refine TO.pad ?_
 refine TO.appzs 0 1 rfl rfl rfl rfl (by decide) rfl underlying22 underlying3 sz3 by3 z3 rfl (by decide) (by decide) (vl rfl) (vl rfl) (i := i) (k := l.length + 1 - i) (by omega) (by simp only [List.length_append, List.length_take, List.length_drop, List.length_map, hAl, hv1, hv2]; omega) (by omega) (by omega) (by unfold maxLen; omega) (by omega) (fun b1 cap1 sp1 hg1 hm1 hs1 => ?_)
 refine ap ?_
 refine wk5 0 1 2 7 9 rfl (Tr.seq ?_)
 have hsz : sp1.length = (cap1 - i) * 1 := by have := hs1; rw [List.length_take, List.length_append, hAl] at this; omega
 refine Tr.frzS (sz := 1) (l.map (fun n : Int => [int n])) 1 0 rfl rfl (Pr.le_trans (andIs_is _ _) (Pr.le_of_eq (by simp))) (map_rows fun _ => rfl) (by rw [List.length_map]; exact hc) hm (by rw [List.length_map, List.length_map]; omega) ?_
 refine ap ?_
 refine tp rfl (okb_sliceFrom rfl underlying22 sz3 (vl rfl) (vl rfl) (by omega) (by omega) (by omega)) (tm rfl ?_)
 refine TO.efc 0 rfl rfl (by decide) (ef_copyS rfl rfl rfl underlying22 sz3 (by decide) (vl rfl) (vl rfl) (by omega) (by omega) (by simp only [List.length_append, List.length_take, List.length_drop, List.length_map, hAl, hv1, hv2]; omega) rfl) ?_
 refine ap ?_
 refine Tr.seq (Tr.rx ?_)
 refine ay ?_
 refine xo rfl (fun _ => okb_sliceFrom rfl underlying22 sz3 (vl rfl) (vl rfl) (by omega) (by omega) (by omega)) ?_
 refine ay ?_
 refine xo rfl (fun _ => ok_sliceFrom rfl underlying22 sz3 (Kb rfl) (vl rfl) (by omega) (by simp; omega)) ?_
 refine Cx.ef 0 rfl rfl (by decide) (ef_copyS rfl rfl rfl underlying22 sz3 (by decide) (vl rfl) (vl rfl) (by simp only [List.length_append, List.length_take, List.length_drop, List.length_map, hAl, hv1, hv2]; omega) (by simp only [List.length_append, List.length_take, List.length_drop, List.length_map, hAl, hv1, hv2]; omega) (by simp only [List.length_append, List.length_take, List.length_drop, List.length_map, hAl, hv1, hv2]; omega) rfl) ?_
 refine Cx.nil ⟨by kernel_rfl, ?_⟩
 refine FinX.done al3 (Fin.go (wk1 9 rfl ?_))
 refine ac ?_
 refine Tr.ret (Fin.then_ret ?_)
 refine Fin.closeH (sz := 1) 0 rfl (rows := ((l.take i ++ [x] ++ l.drop i).map (fun n : Int => [int n]))) (sp := sp1.drop ((l.length + 1 - i) * 1)) (m := i + (l.length + 1 - i)) (ins_grownZ (a := i * 1) (z := 1) (Z := sp1.map is) (N := l.length * 1) hAl (by omega) rfl (by rw [List.length_map]; omega) (by omega) (by omega) (by omega) (by omega) (by rw [List.length_drop, List.length_map]; omega) (by rw [← List.map_drop, flat_dropN (f := (fun n : Int => [int n])) (sz := 1) (fun _ => rfl), e2]) (by rw [List.map_drop, show (l.length + 1 - i) * 1 = l.length * 1 + 1 - i * 1 by omega, ← flat_insN (f := (fun n : Int => [int n])) (sz := 1) (l := l) (i := i) (x := x) (fun _ => rfl)]; rfl)) (by simp only [List.length_map, List.length_append, List.length_take, List.length_drop, List.length_cons, List.length_nil]; omega) (by omega) hm1 (by rw [List.length_drop]; omega) ?_
 refine Fin.drop 1 ?_
 refine Fin.retM1 rfl rfl ?_ (by rintro _ _ _ rfl; rfl)
 · rintro _ _ _ rfl; exact ⟨_, _, by congr 1; omega⟩
 refine a2 ?_
 refine co rfl (okb_sliceCap rfl underlying22 sz3 (Ka rfl) (vl rfl) (by omega) (by omega) (by omega)) ?_
 refine ac ?_
 refine wk5 0 1 2 7 8 rfl ?_
 refine ap ?_
 refine tp rfl (okb_sliceFrom rfl underlying22 sz3 (vl rfl) (vl rfl) (by omega) (by omega) (by omega)) ?_
 refine TO.rd 0 rfl rfl rfl (by decide) (rd_overlaps (tR := 4) rfl func287 (by kernel_rfl) (by kernel_rfl) (by kernel_rfl) (by kernel_rfl) underlying22 sz3 (by decide) (vl rfl) (by exact Nat.zero_lt_succ _) (vl rfl) (by simp only [List.length_append, List.length_take, List.length_drop, List.length_map, hAl, hv1, hv2]; omega)) ?_
 refine ap ?_
 refine Tr.cn rfl ?_ ?_ <;> intro h4 q4
 refine Tr.seq (Tr.rx ?_)
 refine ay ?_
 refine xo rfl (fun _ => okb_sliceFrom rfl underlying22 sz3 (vl rfl) (vl rfl) (by omega) (by omega) (by omega)) ?_
 refine ay ?_
 refine xo rfl (fun _ => okb_sliceFrom rfl underlying22 sz3 (vl rfl) (vl rfl) (by omega) (by omega) (by omega)) ?_
 refine Cx.ef 0 rfl rfl (by decide) (ef_copyB (m := l.length - i) rfl rfl rfl underlying22 sz3 (vl rfl) (vl rfl) (by show _ = min _ _; omega) (by simp only [List.length_append, List.length_take, List.length_drop, List.length_map, hAl, hv1, hv2]; omega) (by simp only [List.length_append, List.length_take, List.length_drop, List.length_map, hAl, hv1, hv2]; omega) rfl) ?_
 refine Cx.nil ⟨by kernel_rfl, ?_⟩
 refine FinX.done al2 (Fin.go (wk3 0 1 2 rfl ?_))
 refine ap ?_
 refine tp rfl (okb_sliceFrom rfl underlying22 sz3 (vl rfl) (vl rfl) (by omega) (by omega) (by omega)) (tm rfl ?_)
 refine TO.efc 0 rfl rfl (by decide) (ef_copyS rfl rfl rfl underlying22 sz3 (by decide) (vl rfl) (vl rfl) (by omega) (by omega) (by simp only [List.length_append, List.length_take, List.length_drop, List.length_map, hAl, hv1, hv2]; omega) rfl) ?_
 refine ap ?_
 refine ac ?_
 refine Tr.ret (Fin.then_ret ?_)
 refine Fin.closeH (sz := 1) 0 rfl (rows := ((l.take i ++ [x] ++ l.drop i).map (fun n : Int => [int n]))) (sp := sp.drop 1) (m := l.length + 1) (ins_placeZ (a := i * 1) (z := 1) (S := sp.map is) (N := l.length * 1) hAl (by omega) rfl (by rw [List.length_map]; omega) (by omega) (by omega) (by omega) (by omega) (by omega) (by omega) (by rw [List.map_drop, ← flat_insN (f := (fun n : Int => [int n])) (sz := 1) (l := l) (i := i) (x := x) (fun _ => rfl)]; rfl)) (by simp only [List.length_map, List.length_append, List.length_take, List.length_drop, List.length_cons, List.length_nil]; omega) (by omega) hm (by rw [List.length_drop]; omega) ?_
 refine Fin.retM1 rfl rfl ?_ (by rintro _ _ _ rfl; rfl)
 · rintro _ _ _ rfl; exact ⟨_, _, by rfl⟩
 exact absurd h4 (by decide)
theorem e_InsBi : Entry Tryz.prog 258 := ⟨_, Tryz.func258, rfl, rfl⟩
theorem w_InsEi {x : Int}  : FunM prog 258 [full 1 [], int ((0 : Nat) : Int), slice 1 [[int x]]] (lens 1) (noRes) (fun v => mutRes 3 1 [[int x]] v) := by
 refine FunM.of func258 rfl rfl (by exact Nb rfl) fun M0 w0 S rs M1 w1 => ?_
 have hv1 : ([[int x]] : List (List Pr)).length = 1 := rfl
 refine a2 ?_
 refine co rfl (ok_sliceFrom rfl underlying22 sz3 (Kf rfl) (vl rfl) (by omega) (by omega)) ?_
 refine a2 ?_
 refine co rfl (ok_len rfl underlying22 (vl rfl)) ?_
 refine ac ?_
 refine an ?_ ?_ <;> intro h1 q1
 simp at h1
 refine a2 ?_
 refine co rfl (ok_len rfl underlying22 (Kf rfl)) ?_
 refine a2 ?_
 refine wk6 0 1 2 7 8 22 rfl ?_
 refine Tr.cn rfl ?_ ?_ <;> intro h2 q2
 refine ap ?_
 refine TO.pad ?_
 refine TO.efs 0 rfl rfl (by decide) (ef_appvoid rfl rfl (by decide) rfl underlying22 sz3 by3 z3 rfl (by decide) (by decide) (vl rfl) (vl rfl) (by simp) (by simp; unfold maxLen; omega) (by simp)) (fun v1 => ?_)
 refine ap ?_
 refine Tr.ret (Fin.then_ret (Fin.drop 1 ?_))
 refine Fin.retM1 rfl rfl ?_ (by intro _ _ _ h; rw [h.1])
 · exact Pr.le_trans (andIs_le _ _) (Lr)
 exact absurd h2 (by decide)
theorem w_InsWi {l : List (Int)} {x : Int} {v : Value} {i : Nat} (hi : i ≤ l.length) (hl : l.length ≤ 1000000) : FunM Tryz.prog 258 [is v, int ((i : Nat) : Int), slice 1 [[int x]]] (slice 1 ((l.take i ++ [x] ++ l.drop i).map (fun n : Int => [int n]))) (oweRes 3 1 (l.map (fun n : Int => [int n])) v) (fun _ => noRes) := by
 refine FunM.frz (e := 3) (m := l.length + 1) (map_rows fun _ => rfl) (FunM.owe_cases e_InsBi (fun h0 => ?_) (fun b cap sp hc hm hq => ?_))
 ·
  have hl0 : l = [] := by simpa using h0
  subst hl0
  have hi0 : i = 0 := by simpa using hi
  subst hi0
  exact FunM.own_of_mut w_InsEi
 ·
  rw [List.length_map] at hc hq ⊢
  exact w_InsBi hi hl hc hm (by omega)
theorem w_DelWi {l : List (Int)} {v : Value} {i : Nat} (hi : i < l.length) (hl : l.length ≤ 1000000) : FunM Tryz.prog 208 [is v, int ((i : Nat) : Int), int (((i : Nat) : Int) + 1)] (slice 1 ((l.eraseIdx i).map (fun n : Int => [int n]))) (oweRes 3 1 (l.map (fun n : Int => [int n])) v) (fun _ => noRes) := by
 refine FunM.frz (e := 3) (m := l.length - 1) (map_rows fun _ => rfl) (FunM.owe_cases e_DelBi (fun h0 => ?_) (fun b cap sp hc hm hq => ?_))
 ·
  have hl0 : l = [] := by simpa using h0
  subst hl0; simp at hi
 ·
  rw [List.length_map] at hc hq ⊢
  exact w_DelBi hi hl hc hm (by omega)

theorem w_InsBn {l : List (Idn)} {x : Idn} {b0 cap i : Nat} {sp : List Value} (hi : i ≤ l.length) (hl : l.length ≤ 1000000) (hc : l.length ≤ cap) (hm : cap ≤ maxLen) (hq : sp.length = (cap - l.length) * 4) : FunM prog 261 [andIs (.slice (some ⟨b0, 0, none⟩) l.length cap) (lens l.length), int ((i : Nat) : Int), slice 4 [rowId x]] (lens (l.length + 1)) (cellsRes true b0 27 ((l.map rowId).flatten ++ sp.map is)) (fun v => ownRes 27 4 ((l.take i ++ [x] ++ l.drop i).map rowId) v) := by
 refine FunM.of func261 rfl rfl (by exact Nb rfl) fun M0 w0 S rs M1 w1 => ?_
 have hv2 : ([rowId x] : List (List Pr)).flatten.length = 4 := rfl
 have hv1 : ([rowId x] : List (List Pr)).length = 1 := rfl
 have hAl : ((l.map rowId).flatten).length = l.length * 4 := by rw [flat_len (sz := 4) (map_rows fun _ => rfl), List.length_map]
 have e1 : (((i : Nat) : Int) + (1 : Int)).toNat = i + 1 := by omega
 have e2 : ((i : Nat) : Int).toNat = i := by omega
 refine a2 ?_
 refine co rfl (okb_sliceAny rfl underlying30 sz27 (Ka rfl) (vl rfl) (by omega) (by omega) (by omega)) ?_
 refine a2 ?_
 refine co rfl (ok_len rfl underlying30 (vl rfl)) ?_
 refine ac ?_
 refine an ?_ ?_ <;> intro h1 q1
 simp at h1
 refine a2 ?_
 refine co rfl (okb_len rfl underlying30 (Ka rfl)) ?_
 refine a2 ?_
 refine wk6 0 1 2 7 8 22 rfl ?_
 refine Tr.cn rfl ?_ ?_ <;> intro h2 q2
 refine Tr.seq (Tr.closeG (sz := 4) 0 rfl (rows := l.map rowId) (sp := sp) rfl (by simp) hc hm hq ?_)
 refine ap ?_
 refine TO.efs 0 rfl rfl (by decide) (ef_appmut rfl rfl (by decide) rfl underlying30 sz27 by27 z27 rfl (by decide) (by decide) (vl rfl) (vl rfl) (map_rows fun _ => rfl) (Nat.zero_lt_succ _) (by simp only [List.length_map, List.length_cons, List.length_nil]; unfold maxLen; omega) (by simp only [List.length_map, List.length_cons, List.length_nil]; omega)) (fun v1 => ?_)
 refine ap ?_
 refine Tr.ret (Fin.then_ret ?_)
 refine Fin.retM1 rfl rfl ?_ (by rintro _ _ _ ⟨rfl, _⟩; rw [show i = l.length by omega, List.take_length, List.drop_length, List.append_nil, List.map_append]; rfl)
 · exact Pr.le_trans (andIs_le _ _) (Pr.le_of_eq (by simp))
 refine a2 ?_
 refine co rfl (okb_cap rfl underlying30 (Ka rfl)) ?_
 refine an ?_ ?_ <;> intro h3 q3
 refine ap ?_
 refine tp rfl (okb_sliceTo rfl underlying30 sz27 (Ka rfl) (vl rfl) (by omega) (by omega) (by omega) (by omega)) ?_
 refine ap ?_
 refine TO.pad ?_
 refine TO.appzs 0 1 rfl rfl rfl rfl (by decide) rfl underlying30 underlying3 sz27 by27 z27 rfl (by decide) (by decide) (vl rfl) (vl rfl) (i := i) (k := l.length + 1 - i) (by omega) (by simp only [List.length_append, List.length_take, List.length_drop, List.length_map, hAl, hv1, hv2]; omega) (by omega) (by omega) (by unfold maxLen; omega) (by omega) (fun b1 cap1 sp1 hg1 hm1 hs1 => ?_)
 refine ap ?_
 refine wk5 0 1 2 7 9 rfl (Tr.seq ?_)
 have hsz : sp1.length = (cap1 - i) * 4 := by have := hs1; rw [List.length_take, List.length_append, hAl] at this; omega
 refine Tr.frzS (sz := 4) (l.map rowId) 1 0 rfl rfl (Pr.le_trans (andIs_is _ _) (Pr.le_of_eq (by simp))) (map_rows fun _ => rfl) (by rw [List.length_map]; exact hc) hm (by rw [List.length_map, List.length_map]; omega) ?_
 refine ap ?_
 refine tp rfl (okb_sliceFrom rfl underlying30 sz27 (vl rfl) (vl rfl) (by omega) (by omega) (by omega)) (tm rfl ?_)
 refine TO.efc 0 rfl rfl (by decide) (ef_copyS rfl rfl rfl underlying30 sz27 (by decide) (vl rfl) (vl rfl) (by omega) (by omega) (by simp only [List.length_append, List.length_take, List.length_drop, List.length_map, hAl, hv1, hv2]; omega) rfl) ?_
 refine ap ?_
 refine Tr.seq (Tr.rx ?_)
 refine ay ?_
 refine xo rfl (fun _ => okb_sliceFrom rfl underlying30 sz27 (vl rfl) (vl rfl) (by omega) (by omega) (by omega)) ?_
 refine ay ?_
 refine xo rfl (fun _ => ok_sliceFrom rfl underlying30 sz27 (Kb rfl) (vl rfl) (by omega) (by simp; omega)) ?_
 refine Cx.ef 0 rfl rfl (by decide) (ef_copyS rfl rfl rfl underlying30 sz27 (by decide) (vl rfl) (vl rfl) (by simp only [List.length_append, List.length_take, List.length_drop, List.length_map, hAl, hv1, hv2]; omega) (by simp only [List.length_append, List.length_take, List.length_drop, List.length_map, hAl, hv1, hv2]; omega) (by simp only [List.length_append, List.length_take, List.length_drop, List.length_map, hAl, hv1, hv2]; omega) rfl) ?_
 refine Cx.nil ⟨by kernel_rfl, ?_⟩
 refine FinX.done al3 (Fin.go (wk1 9 rfl ?_))
 refine ac ?_
 refine Tr.ret (Fin.then_ret ?_)
 refine Fin.closeH (sz := 4) 0 rfl (rows := ((l.take i ++ [x] ++ l.drop i).map rowId)) (sp := sp1.drop ((l.length + 1 - i) * 4)) (m := i + (l.length + 1 - i)) (ins_grownZ (a := i * 4) (z := 4) (Z := sp1.map is) (N := l.length * 4) hAl (by omega) rfl (by rw [List.length_map]; omega) (by omega) (by omega) (by omega) (by omega) (by rw [List.length_drop, List.length_map]; omega) (by rw [← List.map_drop, flat_dropN (f := rowId) (sz := 4) (fun _ => rfl), e2]) (by rw [List.map_drop, show (l.length + 1 - i) * 4 = l.length * 4 + 4 - i * 4 by omega, ← flat_insN (f := rowId) (sz := 4) (l := l) (i := i) (x := x) (fun _ => rfl)]; rfl)) (by simp only [List.length_map, List.length_append, List.length_take, List.length_drop, List.length_cons, List.length_nil]; omega) (by omega) hm1 (by rw [List.length_drop]; omega) ?_
 refine Fin.drop 1 ?_
 refine Fin.retM1 rfl rfl ?_ (by rintro _ _ _ rfl; rfl)
 · rintro _ _ _ rfl; exact ⟨_, _, by congr 1; omega⟩
 refine a2 ?_
 refine co rfl (okb_sliceCap rfl underlying30 sz27 (Ka rfl) (vl rfl) (by omega) (by omega) (by omega)) ?_
 refine ac ?_
 refine wk5 0 1 2 7 8 rfl ?_
 refine ap ?_
 refine tp rfl (okb_sliceFrom rfl underlying30 sz27 (vl rfl) (vl rfl) (by omega) (by omega) (by omega)) ?_
 refine TO.rd 0 rfl rfl rfl (by decide) (rd_overlaps (tR := 4) rfl func289 (by kernel_rfl) (by kernel_rfl) (by kernel_rfl) (by kernel_rfl) underlying30 sz27 (by decide) (vl rfl) (by exact Nat.zero_lt_succ _) (vl rfl) (by simp only [List.length_append, List.length_take, List.length_drop, List.length_map, hAl, hv1, hv2]; omega)) ?_
 refine ap ?_
 refine Tr.cn rfl ?_ ?_ <;> intro h4 q4
 refine Tr.seq (Tr.rx ?_)
 refine ay ?_
 refine xo rfl (fun _ => okb_sliceFrom rfl underlying30 sz27 (vl rfl) (vl rfl) (by omega) (by omega) (by omega)) ?_
 refine ay ?_
 refine xo rfl (fun _ => okb_sliceFrom rfl underlying30 sz27 (vl rfl) (vl rfl) (by omega) (by omega) (by omega)) ?_
 refine Cx.ef 0 rfl rfl (by decide) (ef_copyB (m := l.length - i) rfl rfl rfl underlying30 sz27 (vl rfl) (vl rfl) (by show _ = min _ _; omega) (by simp only [List.length_append, List.length_take, List.length_drop, List.length_map, hAl, hv1, hv2]; omega) (by simp only [List.length_append, List.length_take, List.length_drop, List.length_map, hAl, hv1, hv2]; omega) rfl) ?_
 refine Cx.nil ⟨by kernel_rfl, ?_⟩
 refine FinX.done al2 (Fin.go (wk3 0 1 2 rfl ?_))
 refine ap ?_
 refine tp rfl (okb_sliceFrom rfl underlying30 sz27 (vl rfl) (vl rfl) (by omega) (by omega) (by omega)) (tm rfl ?_)
 refine TO.efc 0 rfl rfl (by decide) (ef_copyS rfl rfl rfl underlying30 sz27 (by decide) (vl rfl) (vl rfl) (by omega) (by omega) (by simp only [List.length_append, List.length_take, List.length_drop, List.length_map, hAl, hv1, hv2]; omega) rfl) ?_
 refine ap ?_
 refine ac ?_
 refine Tr.ret (Fin.then_ret ?_)
 refine Fin.closeH (sz := 4) 0 rfl (rows := ((l.take i ++ [x] ++ l.drop i).map rowId)) (sp := sp.drop 4) (m := l.length + 1) (ins_placeZ (a := i * 4) (z := 4) (S := sp.map is) (N := l.length * 4) hAl (by omega) rfl (by rw [List.length_map]; omega) (by omega) (by omega) (by omega) (by omega) (by omega) (by omega) (by rw [List.map_drop, ← flat_insN (f := rowId) (sz := 4) (l := l) (i := i) (x := x) (fun _ => rfl)]; rfl)) (by simp only [List.length_map, List.length_append, List.length_take, List.length_drop, List.length_cons, List.length_nil]; omega) (by omega) hm (by rw [List.length_drop]; omega) ?_
 refine Fin.retM1 rfl rfl ?_ (by rintro _ _ _ rfl; rfl)
 · rintro _ _ _ rfl; exact ⟨_, _, by rfl⟩
 exact absurd h4 (by decide)
theorem e_InsBn : Entry Tryz.prog 261 := ⟨_, Tryz.func261, rfl, rfl⟩
theorem w_InsEn {x : Idn}  : FunM prog 261 [full 4 [], int ((0 : Nat) : Int), slice 4 [rowId x]] (lens 1) (noRes) (fun v => mutRes 27 4 [rowId x] v) := by
 refine FunM.of func261 rfl rfl (by exact Nb rfl) fun M0 w0 S rs M1 w1 => ?_
 have hv1 : ([rowId x] : List (List Pr)).length = 1 := rfl
 refine a2 ?_
 refine co rfl (ok_sliceFrom rfl underlying30 sz27 (Kf rfl) (vl rfl) (by omega) (by omega)) ?_
 refine a2 ?_
 refine co rfl (ok_len rfl underlying30 (vl rfl)) ?_
 refine ac ?_
 refine an ?_ ?_ <;> intro h1 q1
 simp at h1
 refine a2 ?_
 refine co rfl (ok_len rfl underlying30 (Kf rfl)) ?_
 refine a2 ?_
 refine wk6 0 1 2 7 8 22 rfl ?_
 refine Tr.cn rfl ?_ ?_ <;> intro h2 q2
 refine ap ?_
 refine TO.pad ?_
 refine TO.efs 0 rfl rfl (by decide) (ef_appvoid rfl rfl (by decide) rfl underlying30 sz27 by27 z27 rfl (by decide) (by decide) (vl rfl) (vl rfl) (by simp) (by simp; unfold maxLen; omega) (by simp)) (fun v1 => ?_)
 refine ap ?_
 refine Tr.ret (Fin.then_ret (Fin.drop 1 ?_))
 refine Fin.retM1 rfl rfl ?_ (by intro _ _ _ h; rw [h.1])
 · exact Pr.le_trans (andIs_le _ _) (Lr)
 exact absurd h2 (by decide)
theorem w_InsWn {l : List (Idn)} {x : Idn} {v : Value} {i : Nat} (hi : i ≤ l.length) (hl : l.length ≤ 1000000) : FunM Tryz.prog 261 [is v, int ((i : Nat) : Int), slice 4 [rowId x]] (slice 4 ((l.take i ++ [x] ++ l.drop i).map rowId)) (oweRes 27 4 (l.map rowId) v) (fun _ => noRes) := by
 refine FunM.frz (e := 27) (m := l.length + 1) (map_rows fun _ => rfl) (FunM.owe_cases e_InsBn (fun h0 => ?_) (fun b cap sp hc hm hq => ?_))
 ·
  have hl0 : l = [] := by simpa using h0
  subst hl0
  have hi0 : i = 0 := by simpa using hi
  subst hi0
  exact FunM.own_of_mut w_InsEn
 ·
  rw [List.length_map] at hc hq ⊢
  exact w_InsBn hi hl hc hm (by omega)
theorem w_DelWn {l : List (Idn)} {v : Value} {i : Nat} (hi : i < l.length) (hl : l.length ≤ 1000000) : FunM Tryz.prog 214 [is v, int ((i : Nat) : Int), int (((i : Nat) : Int) + 1)] (slice 4 ((l.eraseIdx i).map rowId)) (oweRes 27 4 (l.map rowId) v) (fun _ => noRes) := by
 refine FunM.frz (e := 27) (m := l.length - 1) (map_rows fun _ => rfl) (FunM.owe_cases e_DelBn (fun h0 => ?_) (fun b cap sp hc hm hq => ?_))
 ·
  have hl0 : l = [] := by simpa using h0
  subst hl0; simp at hi
 ·
  rw [List.length_map] at hc hq ⊢
  exact w_DelBn hi hl hc hm (by omega)


theorem w_IdxWi {l : List Int} {x : Int} {v : Value} : FunM Tryz.prog 207 [is v, int x] (int (idx (fun y => x == y) l)) (oweRes 3 1 (l.map fun n => [int n]) v) (fun _ => oweRes 3 1 (l.map fun n => [int n]) v) := FunM.owe_pure (map_rows fun _ => rfl) w_IndexI
theorem w_HasWi {l : List Int} {x : Int} {v : Value} : FunM Tryz.prog 190 [is v, int x] (bool (l.any fun y => x == y)) (oweRes 3 1 (l.map fun n => [int n]) v) (fun _ => oweRes 3 1 (l.map fun n => [int n]) v) := FunM.owe_pure (map_rows fun _ => rfl) w_ContainsI
/-- Its lists are of some length. -/
structure Idn.small (x : Idn) : Prop where
 chain : x.chain.length ≤ 925904528640
 names : ∀ c ∈ x.chain, c.names.length ≤ 8796093022208

theorem w_copyId {x : Idn} (hx : x.small) : Fun prog 166 [agg (rowId x)] (agg (rowId x)) := by
 refine fo func166 rfl ⟨rfl, rfl⟩ fun M0 w0 => ?_
 have hch := hx.chain
 refine Tr.seq (Tr.regT ?_)
 refine TO.boxm rfl rfl (by decide) rfl (Va rfl) (fun b1 => ?_)
 refine Tl rfl rfl rfl rfl z27 zo27 (fun b2 => ?_)
 refine ao ?_
 refine ao ?_
 refine TO.pad ?_
 refine TO.efs 0 rfl rfl (by decide) (ef_call rfl rfl (by decide) rfl (w_CloneWc (l := x.chain) (by omega)) ⟨ke rfl, trivial⟩) (fun v1 => ?_)
 refine tp rfl (okp_fieldAddr rfl fo27_2 (vl rfl)) (TO.ef0 2 rfl rfl (ef_store rfl rfl (vl rfl) (Vo rfl) sz25 rfl (by exact Nb rfl) rfl) ?_)
 refine ao ?_
 refine ac ?_
 refine co rfl (ok_rd 0 rfl (rd_lenW rfl underlying25 (Ka rfl))) ?_
 refine ac ?_
 refine Tr.block (Tr.re 11 rfl (int_eq (by rw [List.length_map])) (Tr.loopw [(1, _), (2, _), (10, _), (11, _)] (kk4 rfl) (fun k : Nat => [(12, int ((k : Nat) : Int))]) (fun k : Nat => k ≤ (x.chain).length) (fun k : Nat => (x.chain).length - k) 0 (Nat.zero_le _) ⟨ke rfl, trivial⟩ ?_))
 rintro k hle_k
 refine ac ?_
 refine Tr.seq ?_
 refine Tr.cn rfl ?_ ?_ <;> intro h1 q1
 have hk_k : k < (x.chain).length := lt_of_dec h1
 obtain ⟨c, hx_k⟩ := at_ hk_k
 have hcn := hx.names c (List.mem_of_getElem? hx_k)
 refine ac ?_
 refine ao ?_
 refine tp rfl (ok_rd 0 rfl (rd_elp rfl underlying25 sz131 (Ka rfl) (vl rfl) (by omega) (by rw [List.length_map]; omega))) ?_
 refine tp rfl (ok_rd 0 rfl (rd_elload rfl agg131 sz131 (vl rfl) (map_rows fun _ => rfl) (by rw [Int.toNat_natCast, List.getElem?_map, hx_k]; rfl))) ?_
 refine Tl rfl rfl rfl rfl z131 zo131 (fun b3 => ?_)
 refine tm rfl ?_
 refine sf 0 4 ⟨rfl, rfl, rfl⟩ rfl rfl rfl rfl ?_
 refine ao ?_
 refine Tr.rx ?_
 refine ax ?_
 refine xo rfl (fun _ => kc1 (w_CloneFs hcn) rfl rfl) ?_
 refine xrd 0 rfl rfl (rd_elp rfl underlying25 sz131 (Ka rfl) (vl rfl) (by omega) (by rw [List.length_map]; omega)) ?_
 refine xo rfl (fun _ => ok_elfield rfl fo131_10 (vl rfl)) ?_
 refine Cx.ef0 0 rfl rfl (ef_elstore rfl rfl (vl rfl) (Vo rfl) sz74 rfl (map_rows fun _ => rfl) (by rw [Int.toNat_natCast, List.getElem?_map, hx_k]; rfl) (by decide) (row_setI (f := rowCr) hx_k rfl)) ?_
 refine Cx.nil ⟨by kernel_rfl, ?_⟩
 refine FinX.done al3 ?_
 refine ac ?_
 refine wk5 1 2 10 11 12 rfl ?_
 refine ac ?_
 exact Fin.fam_same (k + 1) ⟨hk_k, by omega⟩ ⟨⟨_, rfl, int_succ k⟩, ke rfl, ke rfl, ke rfl, ke rfl, trivial⟩
 have he_k : k = (x.chain).length := by have := ge_of_dec h1; omega
 subst he_k
 refine ac ?_
 refine Tr.seq (Tr.frzWC 2 0 3 rfl rfl (by decide) rfl (andIs_is _ _) (map_rows fun _ => rfl) ?_)
 refine ao ?_
 refine TO.store_all 1 rfl rfl rfl (vl rfl) (Va rfl) rfl sz27 rfl rfl ?_
 refine ao ?_
 refine Tr.drop 0 (Tr.drop 1 (Tr.ret (Fin.retX1 rfl (RVal.cell 0 rfl rfl agg27 sz27 rfl (Lr)) ?_)))
 · exact Lr
/-- A change. -/
structure Chg where
 endpoint : Int
 kind : Int
 number : Int
 at_ : Int
 idn : Idn
abbrev rowChg (c : Chg) : List Pr := [int c.endpoint, int c.kind, int c.number, int c.at_, int c.idn.alg, int c.idn.bits, int c.idn.keyId, certs c.idn.chain]
abbrev rowWt (c b : Chg) : List Pr := [int c.endpoint, int c.kind, int c.number, int c.at_, int c.idn.alg, int c.idn.bits, int c.idn.keyId, certs c.idn.chain, int b.endpoint, int b.kind, int b.number, int b.at_, int b.idn.alg, int b.idn.bits, int b.idn.keyId, certs b.idn.chain]
abbrev rowO (e : Ept) (p3 p5 p6 p7 : Pr) : List Pr := [str e.name, int e.least, int e.most, p3, bool e.own, p5, p6, p7, bool e.fall]
abbrev resW (wb ob : Nat) (c b : Chg) : Res := cellsRes true wb 159 (ptr ob 0 :: rowWt c b)
abbrev resO (ob : Nat) (e : Ept) (p3 p5 p6 p7 : Pr) : Res := cellsRes true ob 32 (rowO e p3 p5 p6 p7)
def keyIdx (key : Int) (l : List Idn) : Int := idx (fun x => x.keyId == key) l
theorem idx_hit {β : Type} {p : β → Bool} {l : List β} (h : 0 ≤ idx p l) : ∃ x, l[(idx p l).toNat]? = some x ∧ p x = true ∧ (idx p l).toNat < l.length := by
 unfold idx at *
 cases hf : l.findIdx? p with
 | none => rw [hf] at h; simp at h
 | some i =>
  rw [List.findIdx?_eq_some_iff_getElem] at hf
  obtain ⟨h1, h2, _⟩ := hf
  refine ⟨l[i], ?_, h2, by simpa using h1⟩
  simp

theorem w_idn1 {key : Int} {x : Idn}  : Fun prog 260 [agg (rowId x), ref [int key]] (bool (x.keyId == key)) := by
 refine fo func260 rfl ⟨rfl, rfl⟩ fun M0 w0 => ?_
 refine a3 ?_
 · exact Lr
theorem e_idn1 : Entry Tryz.prog 260 := ⟨_, Tryz.func260, rfl, rfl⟩
theorem w_idn0 {e : Ept} {key : Int} {wps : List Pr}  : Fun prog 210 [ref (ref (rowEp e) :: wps), int key] (int (keyIdx key e.ids)) := by
 refine fo func210 rfl ⟨rfl, rfl⟩ fun M0 w0 => ?_
 refine a2 ?_
 refine co rfl (ok_call rfl (w_IdxN (l := e.ids) (p := fun x => x.keyId == key)) ⟨ke rfl, ⟨_, rfl, fn_le_clo (dom := fun x : Idn => [agg (rowId x)]) (res := fun x => bool (x.keyId == key)) e_idn1 (fun x => w_idn1 (key := key) (x := x))⟩, trivial⟩) ?_
 refine a2 ?_
 · exact Lr
theorem w_drop1 {c b : Chg} {x : Idn} {q : Pr}  : Fun prog 213 [agg (rowId x), ref [ref (q :: rowWt c b)]] (bool (x.keyId == c.number)) := by
 refine fo func213 rfl ⟨rfl, rfl⟩ fun M0 w0 => ?_
 refine a3 ?_
 · exact Lr
theorem e_drop1 : Entry Tryz.prog 213 := ⟨_, Tryz.func213, rfl, rfl⟩

theorem w_idn {e : Ept} {c b : Chg} {wb ob : Nat} {p3 p6 p7 : Pr} {v : Value} {key : Int} (h3 : p3 = ints e.suites) (h6 : p6 = ints e.anchors) (h7 : p7 = ints e.hashes) : FunD Tryz.prog 210 [ptr wb 0, int key] [resW wb ob c b, resO ob e p3 (is v) p6 p7, oweRes 27 4 (e.ids.map rowId) v] (int (keyIdx key e.ids)) [resW wb ob c b, resO ob e p3 (is v) p6 p7, oweRes 27 4 (e.ids.map rowId) v] := by
 subst h3; subst h6; subst h7
 exact FunD.look (k := 5) (rows := rowEp e) (sz := 4) rfl (map_rows fun _ => rfl) rfl w_idn0
theorem w_twice {l : List Idn} {c b : Chg} {wb ob : Nat} {v : Value} {k : Nat} : FunD prog 212 [Cp.part 4 v k, fn (.func 213) [ref [ptr wb 0]]] [resW wb ob c b, oweRes 27 4 (l.map rowId) v] (bool ((l.drop k).any fun x => x.keyId == c.number)) [resW wb ob c b, oweRes 27 4 (l.map rowId) v] := by
 refine FunD.lookPart (map_rows fun _ => rfl) ?_
 refine Fun.le (w_HasN (l := l.drop k) (p := fun x => x.keyId == c.number)) ?_ (Lr)
 intro M w vs hv
 match vs, hv with
 | [u0, u1], hv1 =>
  exact ⟨by have := hv1.1; rw [← List.map_drop] at this; exact this, fn_le_clo (dom := fun x : Idn => [agg (rowId x)]) (res := fun x => bool (x.keyId == c.number)) e_drop1 (fun x => w_drop1 (c := c) (b := b) (x := x)) _ _ _ hv1.2.1, trivial⟩

theorem w_dropSuiteN {e : Ept} {c b : Chg} {wb ob : Nat} {v : Value} {p5 p6 p7 : Pr}  (h : (idx (fun y => c.number == y) e.suites) < 0) : FunD prog 168 [ptr wb 0] [resW wb ob c b, resO ob e (is v) p5 p6 p7, oweRes 3 1 (e.suites.map fun n => [int n]) v] (int 41) [] := by
 refine FunD.of func168 rfl rfl (by exact Nb rfl) fun M0 w0 S rs M1 w1 => ?_
 refine ac ?_
 refine Tr.seq (Tr.rx ?_)
 refine ay ?_
 refine Cx.ef 2 rfl rfl (by decide) (ef_callc rfl rfl (by decide) rfl (w_IdxWi) ⟨ke rfl, ke rfl, trivial⟩) (xm rfl ?_)
 refine Cx.nil ⟨by kernel_rfl, ?_⟩
 refine FinX.done al4 (Fin.go (wk2 0 3 rfl ?_))
 refine an ?_ ?_ <;> intro h1 q1
 refine ac ?_
 refine Tr.ret (Fin.then_ret (Fin.drop 0 (Fin.drop 0 (Fin.drop 0 (Fin.retD rfl (RVal.tmp rfl (Lr)) ?_ (List.Perm.refl _))))))
 · exact Lr
 exfalso; have := q1; omega
theorem w_dropSuiteY {e : Ept} {c b : Chg} {wb ob : Nat} {v : Value} {p5 p6 p7 : Pr}  (h : 0 ≤ (idx (fun y => c.number == y) e.suites)) (hs : e.suites.length ≤ 1000000) : FunD prog 168 [ptr wb 0] [resW wb ob c b, resO ob e (is v) p5 p6 p7, oweRes 3 1 (e.suites.map fun n => [int n]) v] (int 0) [resW wb ob c ⟨b.endpoint, 1, c.number, (idx (fun y => c.number == y) e.suites), b.idn⟩, resO ob e (ints (e.suites.eraseIdx (idx (fun y => c.number == y) e.suites).toNat)) p5 p6 p7] := by
 refine FunD.of func168 rfl rfl (by exact Nb rfl) fun M0 w0 S rs M1 w1 => ?_
 obtain ⟨x_, hx_, _, hlt_⟩ := idx_hit h
 refine ac ?_
 refine Tr.seq (Tr.rx ?_)
 refine ay ?_
 refine Cx.ef 2 rfl rfl (by decide) (ef_callc rfl rfl (by decide) rfl (w_IdxWi) ⟨ke rfl, ke rfl, trivial⟩) (xm rfl ?_)
 refine Cx.nil ⟨by kernel_rfl, ?_⟩
 refine FinX.done al4 (Fin.go (wk2 0 3 rfl ?_))
 refine an ?_ ?_ <;> intro h1 q1
 exfalso; have := q1; omega
 refine ac ?_
 refine Tr.seq (Tr.rx ?_)
 refine ay ?_
 refine Cx.ef 2 rfl rfl (by decide) (ef_callc rfl rfl (by decide) rfl (w_DelWi (l := e.suites) (i := (idx (fun y => c.number == y) e.suites).toNat) (by omega) hs) ⟨ke rfl, ⟨_, rfl, int_eq (by omega)⟩, ⟨_, rfl, int_eq (by omega)⟩, trivial⟩) ?_
 refine ay ?_
 refine Cx.nil ⟨by kernel_rfl, ?_⟩
 refine FinX.done al4 (Fin.go (wk2 0 3 rfl ?_))
 refine ap ?_
 refine Tr.weak [] trivial ?_
 refine ac ?_
 refine Tr.ret (Fin.drop 2 (Fin.retD rfl (RVal.tmp rfl (Lr)) ?_ (List.Perm.refl _)))
 · exact Lr
theorem w_insNBad {e : Ept} {x : Idn} {at_ : Int} {ob : Nat} {v : Value} {p3 p6 p7 : Pr}  (hr : ¬ (0 ≤ at_ ∧ at_ ≤ (e.ids.length : Nat))) : FunD prog 211 [ptr ob 5, int at_, agg (rowId x)] [resO ob e p3 (is v) p6 p7, oweRes 27 4 (e.ids.map rowId) v] (int 2) [] := by
 refine FunD.of func211 rfl rfl (by exact Nb rfl) fun M0 w0 S rs M1 w1 => (Tr.seq ?_)
 have hml : (e.ids.map rowId).length = e.ids.length := List.length_map _
 refine ac ?_
 refine ag ?_ ?_ <;> intro h1 q1
 have hq9 := q1
 refine a2 ?_
 refine Tr.ret (Fin.then_ret (Fin.drop 0 (Fin.drop 0 (Fin.retD rfl (RVal.tmp rfl (Lr)) ?_ (List.Perm.refl _)))))
 · exact Lr
 refine ac ?_
 refine cy h1 rfl (ok_rd 1 rfl (rd_lenW rfl underlying30 (vl rfl))) ?_
 refine an ?_ ?_ <;> intro h2 q2
 refine ac ?_
 refine Tr.ret (Fin.then_ret (Fin.drop 0 (Fin.drop 0 (Fin.retD rfl (RVal.tmp rfl (Lr)) ?_ (List.Perm.refl _)))))
 · exact Lr
 exfalso; simp_all
theorem w_insNOk {e : Ept} {x : Idn} {at_ : Int} {ob : Nat} {v : Value} {p3 p6 p7 : Pr}  (hr : 0 ≤ at_ ∧ at_ ≤ (e.ids.length : Nat)) (hl : e.ids.length ≤ 1000000) : FunD prog 211 [ptr ob 5, int at_, agg (rowId x)] [resO ob e p3 (is v) p6 p7, oweRes 27 4 (e.ids.map rowId) v] (int 0) [resO ob e p3 (idns (e.ids.take at_.toNat ++ [x] ++ e.ids.drop at_.toNat)) p6 p7] := by
 refine FunD.of func211 rfl rfl (by exact Nb rfl) fun M0 w0 S rs M1 w1 => (Tr.seq ?_)
 have hml : (e.ids.map rowId).length = e.ids.length := List.length_map _
 refine ac ?_
 refine ag ?_ ?_ <;> intro h1 q1
 exfalso; have := q1; omega
 refine ac ?_
 refine cy h1 rfl (ok_rd 1 rfl (rd_lenW rfl underlying30 (vl rfl))) ?_
 refine an ?_ ?_ <;> intro h2 q2
 exfalso; simp_all; omega
 refine ac ?_
 refine Tr.seq (Tr.rx ?_)
 refine ay ?_
 refine xo rfl (fun _ => ok_buildSlice (xs := [.tmp 22]) (rows := [_]) rfl rfl underlying30 sz27 z27 rfl (by decide) ⟨⟨(by exact rfl), (Va rfl)⟩, trivial⟩ (by decide)) ?_
 refine Cx.ef 1 rfl rfl (by decide) (ef_callc rfl rfl (by decide) rfl (w_InsWn (l := e.ids) (x := x) (i := at_.toNat) (by omega) hl) ⟨ke rfl, ⟨_, rfl, int_eq (by omega)⟩, (Kf rfl), trivial⟩) ?_
 refine ay ?_
 refine Cx.nil ⟨by kernel_rfl, ?_⟩
 refine FinX.done al3 (Fin.go (Tr.weak [] trivial ?_))
 refine ac ?_
 refine Tr.ret (Fin.drop 1 (Fin.retD rfl (RVal.tmp rfl (Lr)) ?_ (List.Perm.refl _)))
 · exact Lr
theorem FunD.perm {P : Program} {f : FuncId} {args : List Pr} {pre post post' : List Res} {res : Pr} (h : FunD P f args pre res post) (hp : post.Perm post') : FunD P f args pre res post' :=
 ⟨h.1, fun M0 w0 S rs M w vs hI hv => (h.2 M0 w0 S rs M w vs hI hv).mono fun _e _w' ⟨v, M', x, h1, h2, h3, h4, h5⟩ => ⟨v, M', x, h1, h2, h3, h4, HpH.perm (hp.append_right rs) h5⟩⟩

theorem w_addIdnR {e : Ept} {c b : Chg} {wb ob : Nat} {v : Value}  (hx : c.idn.small) (hr : ¬ (0 ≤ c.at_ ∧ c.at_ ≤ (e.ids.length : Nat))) : FunD prog 171 [ptr wb 0] [resW wb ob c b, resO ob e (ints e.suites) (is v) (ints e.anchors) (ints e.hashes), oweRes 27 4 (e.ids.map rowId) v] (int 2) [] := by
 refine FunD.of func171 rfl rfl (by exact Nb rfl) fun M0 w0 S rs M1 w1 => ?_
 refine ac ?_
 refine ap ?_
 refine TO.callD _ rfl rfl (by decide) rfl (w_idn (e := e) (c := c) (b := b) (key := c.idn.keyId) rfl rfl rfl) ⟨ke rfl, ke rfl, trivial⟩ ((perm_at (j := 0) rfl).trans (List.Perm.cons _ ((perm_at (j := 0) rfl).trans (List.Perm.cons _ ((perm_at (j := 0) rfl).trans (List.Perm.cons _ (List.Perm.refl _))))))) ?_
 refine ap ?_
 refine Tr.seq (Tr.seq (Tr.regOne mixed 17 (by kernel_rfl) (ChOne.op rfl rfl (by decide) (ok_move rfl (vl rfl)) (ChOne.op rfl rfl (by decide) (okp_nilCheck rfl (vl rfl)) (ChOne.op rfl rfl (by decide) (okp_fieldAddr rfl fo159_0 (vl rfl)) (ChOne.op rfl rfl (by decide) (ok_rd 0 rfl (rd_load1 rfl one157 (vl rfl) rfl)) (ChOne.op rfl rfl (by decide) (okp_nilCheck rfl (vl rfl)) (ChOne.op rfl rfl (by decide) (okp_fieldAddr rfl fo32_5 (vl rfl)) (ChOne.op rfl rfl (by decide) (ok_move rfl (vl rfl)) (ChOne.op rfl rfl (by decide) (okp_nilCheck rfl (vl rfl)) (ChOne.op rfl rfl (by decide) (okp_fieldAddr rfl fo159_1 (vl rfl)) (ChOne.op rfl rfl (by decide) (okp_fieldAddr rfl fo29_3 (vl rfl)) (ChOne.op rfl rfl (by decide) (ok_rd 0 rfl (rd_load1 rfl one3 (vl rfl) rfl)) ?_)))))))))))))
 refine ChOne.op rfl rfl (by decide) (ok_move rfl (vl rfl)) (ChOne.op rfl rfl (by decide) (okp_nilCheck rfl (vl rfl)) (ChOne.op rfl rfl (by decide) (okp_fieldAddr rfl fo159_1 (vl rfl)) (ChOne.op rfl rfl (by decide) (okp_fieldAddr rfl fo29_4 (vl rfl)) (ChOne.op rfl rfl (by decide) (ok_rd 0 rfl (rd_loadA rfl agg27 sz27 (vl rfl) rfl rfl)) ?_))))
 refine ChOne.op rfl rfl (by decide) (kc1 (w_copyId (x := c.idn) hx) rfl rfl) ?_
 refine ChOne.turn _ rfl (by decide) (turn_call _ rfl rfl (w_insNBad (e := e) (x := c.idn) (at_ := c.at_) hr) ⟨ke rfl, ke rfl, ke rfl, trivial⟩ ((perm_at (j := 1) rfl).trans (List.Perm.cons _ ((perm_at (j := 1) rfl).trans (List.Perm.cons _ (List.Perm.refl _)))))) ?_
 refine ac ?_
 refine wk3 0 3 4 rfl ?_
 refine an ?_ ?_ <;> intro h1 q1
 refine ac ?_
 refine Tr.ret (Fin.then_ret (Fin.drop 0 (Fin.retD rfl (RVal.tmp rfl (Lr)) ?_ (List.Perm.refl _))))
 · exact Lr
 exact absurd h1 (by decide)
theorem w_addIdnT {e : Ept} {c b : Chg} {wb ob : Nat} {v : Value}  (hx : c.idn.small) (hr : 0 ≤ c.at_ ∧ c.at_ ≤ (e.ids.length : Nat)) (hl : e.ids.length ≤ 1000000) (h : 0 ≤ keyIdx c.idn.keyId e.ids) : FunD prog 171 [ptr wb 0] [resW wb ob c b, resO ob e (ints e.suites) (is v) (ints e.anchors) (ints e.hashes), oweRes 27 4 (e.ids.map rowId) v] (int 41) [] := by
 refine FunD.of func171 rfl rfl (by exact Nb rfl) fun M0 w0 S rs M1 w1 => ?_
 refine ac ?_
 refine ap ?_
 refine TO.callD _ rfl rfl (by decide) rfl (w_idn (e := e) (c := c) (b := b) (key := c.idn.keyId) rfl rfl rfl) ⟨ke rfl, ke rfl, trivial⟩ ((perm_at (j := 0) rfl).trans (List.Perm.cons _ ((perm_at (j := 0) rfl).trans (List.Perm.cons _ ((perm_at (j := 0) rfl).trans (List.Perm.cons _ (List.Perm.refl _))))))) ?_
 refine ap ?_
 refine Tr.seq (Tr.seq (Tr.regOne mixed 17 (by kernel_rfl) (ChOne.op rfl rfl (by decide) (ok_move rfl (vl rfl)) (ChOne.op rfl rfl (by decide) (okp_nilCheck rfl (vl rfl)) (ChOne.op rfl rfl (by decide) (okp_fieldAddr rfl fo159_0 (vl rfl)) (ChOne.op rfl rfl (by decide) (ok_rd 0 rfl (rd_load1 rfl one157 (vl rfl) rfl)) (ChOne.op rfl rfl (by decide) (okp_nilCheck rfl (vl rfl)) (ChOne.op rfl rfl (by decide) (okp_fieldAddr rfl fo32_5 (vl rfl)) (ChOne.op rfl rfl (by decide) (ok_move rfl (vl rfl)) (ChOne.op rfl rfl (by decide) (okp_nilCheck rfl (vl rfl)) (ChOne.op rfl rfl (by decide) (okp_fieldAddr rfl fo159_1 (vl rfl)) (ChOne.op rfl rfl (by decide) (okp_fieldAddr rfl fo29_3 (vl rfl)) (ChOne.op rfl rfl (by decide) (ok_rd 0 rfl (rd_load1 rfl one3 (vl rfl) rfl)) ?_)))))))))))))
 refine ChOne.op rfl rfl (by decide) (ok_move rfl (vl rfl)) (ChOne.op rfl rfl (by decide) (okp_nilCheck rfl (vl rfl)) (ChOne.op rfl rfl (by decide) (okp_fieldAddr rfl fo159_1 (vl rfl)) (ChOne.op rfl rfl (by decide) (okp_fieldAddr rfl fo29_4 (vl rfl)) (ChOne.op rfl rfl (by decide) (ok_rd 0 rfl (rd_loadA rfl agg27 sz27 (vl rfl) rfl rfl)) ?_))))
 refine ChOne.op rfl rfl (by decide) (kc1 (w_copyId (x := c.idn) hx) rfl rfl) ?_
 refine ChOne.turn _ rfl (by decide) (turn_call _ rfl rfl (w_insNOk (e := e) (x := c.idn) (at_ := c.at_) hr hl) ⟨ke rfl, ke rfl, ke rfl, trivial⟩ ((perm_at (j := 1) rfl).trans (List.Perm.cons _ ((perm_at (j := 1) rfl).trans (List.Perm.cons _ (List.Perm.refl _)))))) ?_
 refine ac ?_
 refine wk3 0 3 4 rfl ?_
 refine an ?_ ?_ <;> intro h1 q1
 exact absurd h1 (by decide)
 refine ac ?_
 refine an ?_ ?_ <;> intro h2 q2
 refine ac ?_
 refine Tr.ret (Fin.then_ret (Fin.drop 0 (Fin.drop 0 (Fin.retD rfl (RVal.tmp rfl (Lr)) ?_ (List.Perm.refl _)))))
 · exact Lr
 exfalso; have := q2; omega
theorem w_addIdnY {e : Ept} {c b : Chg} {wb ob : Nat} {v : Value}  (hx : c.idn.small) (hr : 0 ≤ c.at_ ∧ c.at_ ≤ (e.ids.length : Nat)) (hl : e.ids.length ≤ 1000000) (h : keyIdx c.idn.keyId e.ids < 0) : FunD prog 171 [ptr wb 0] [resW wb ob c b, resO ob e (ints e.suites) (is v) (ints e.anchors) (ints e.hashes), oweRes 27 4 (e.ids.map rowId) v] (int 0) [resO ob e (ints e.suites) (idns (e.ids.take c.at_.toNat ++ [c.idn] ++ e.ids.drop c.at_.toNat)) (ints e.anchors) (ints e.hashes), resW wb ob c ⟨b.endpoint, 6, c.idn.keyId, b.at_, b.idn⟩] := by
 refine FunD.of func171 rfl rfl (by exact Nb rfl) fun M0 w0 S rs M1 w1 => ?_
 refine ac ?_
 refine ap ?_
 refine TO.callD _ rfl rfl (by decide) rfl (w_idn (e := e) (c := c) (b := b) (key := c.idn.keyId) rfl rfl rfl) ⟨ke rfl, ke rfl, trivial⟩ ((perm_at (j := 0) rfl).trans (List.Perm.cons _ ((perm_at (j := 0) rfl).trans (List.Perm.cons _ ((perm_at (j := 0) rfl).trans (List.Perm.cons _ (List.Perm.refl _))))))) ?_
 refine ap ?_
 refine Tr.seq (Tr.seq (Tr.regOne mixed 17 (by kernel_rfl) (ChOne.op rfl rfl (by decide) (ok_move rfl (vl rfl)) (ChOne.op rfl rfl (by decide) (okp_nilCheck rfl (vl rfl)) (ChOne.op rfl rfl (by decide) (okp_fieldAddr rfl fo159_0 (vl rfl)) (ChOne.op rfl rfl (by decide) (ok_rd 0 rfl (rd_load1 rfl one157 (vl rfl) rfl)) (ChOne.op rfl rfl (by decide) (okp_nilCheck rfl (vl rfl)) (ChOne.op rfl rfl (by decide) (okp_fieldAddr rfl fo32_5 (vl rfl)) (ChOne.op rfl rfl (by decide) (ok_move rfl (vl rfl)) (ChOne.op rfl rfl (by decide) (okp_nilCheck rfl (vl rfl)) (ChOne.op rfl rfl (by decide) (okp_fieldAddr rfl fo159_1 (vl rfl)) (ChOne.op rfl rfl (by decide) (okp_fieldAddr rfl fo29_3 (vl rfl)) (ChOne.op rfl rfl (by decide) (ok_rd 0 rfl (rd_load1 rfl one3 (vl rfl) rfl)) ?_)))))))))))))
 refine ChOne.op rfl rfl (by decide) (ok_move rfl (vl rfl)) (ChOne.op rfl rfl (by decide) (okp_nilCheck rfl (vl rfl)) (ChOne.op rfl rfl (by decide) (okp_fieldAddr rfl fo159_1 (vl rfl)) (ChOne.op rfl rfl (by decide) (okp_fieldAddr rfl fo29_4 (vl rfl)) (ChOne.op rfl rfl (by decide) (ok_rd 0 rfl (rd_loadA rfl agg27 sz27 (vl rfl) rfl rfl)) ?_))))
 refine ChOne.op rfl rfl (by decide) (kc1 (w_copyId (x := c.idn) hx) rfl rfl) ?_
 refine ChOne.turn _ rfl (by decide) (turn_call _ rfl rfl (w_insNOk (e := e) (x := c.idn) (at_ := c.at_) hr hl) ⟨ke rfl, ke rfl, ke rfl, trivial⟩ ((perm_at (j := 1) rfl).trans (List.Perm.cons _ ((perm_at (j := 1) rfl).trans (List.Perm.cons _ (List.Perm.refl _)))))) ?_
 refine ac ?_
 refine wk3 0 3 4 rfl ?_
 refine an ?_ ?_ <;> intro h1 q1
 exact absurd h1 (by decide)
 refine ac ?_
 refine an ?_ ?_ <;> intro h2 q2
 exfalso; have := q2; omega
 refine ac ?_
 refine ap ?_
 refine Tr.weak [] trivial ?_
 refine ac ?_
 refine Tr.ret (Fin.retD rfl (RVal.tmp rfl (Lr)) ?_ (List.Perm.refl _))
 · exact Lr
theorem w_dropIdnN {e : Ept} {c b : Chg} {wb ob : Nat} {v : Value} {x : Idn}  (h : keyIdx c.number e.ids < 0) : FunD prog 172 [ptr wb 0] [resW wb ob c b, resO ob e (ints e.suites) (is v) (ints e.anchors) (ints e.hashes), oweRes 27 4 (e.ids.map rowId) v] (int 41) [] := by
 refine FunD.of func172 rfl rfl (by exact Nb rfl) fun M0 w0 S rs M1 w1 => ?_
 refine ac ?_
 refine Tr.seq (Tr.regOne mixed 6 (by kernel_rfl) (ChOne.op rfl rfl (by decide) (kl1 rfl one156 rfl) (ChOne.op rfl rfl (by decide) (kl1 rfl one156 rfl) (ChOne.op rfl rfl (by decide) (okp_nilCheck rfl (vl rfl)) (ChOne.op rfl rfl (by decide) (okp_fieldAddr rfl fo159_1 (vl rfl)) (ChOne.op rfl rfl (by decide) (okp_fieldAddr rfl fo29_2 (vl rfl)) (ChOne.op rfl rfl (by decide) (ok_rd 0 rfl (rd_load1 rfl one3 (vl rfl) rfl)) ?_)))))))
 refine ChOne.turn _ rfl (by decide) (turn_call _ rfl rfl (w_idn (e := e) (c := c) (b := b) (key := c.number) rfl rfl rfl) ⟨ke rfl, ke rfl, trivial⟩ ((perm_at (j := 0) rfl).trans (List.Perm.cons _ ((perm_at (j := 0) rfl).trans (List.Perm.cons _ ((perm_at (j := 0) rfl).trans (List.Perm.cons _ (List.Perm.refl _)))))))) ?_
 refine ac ?_
 refine an ?_ ?_ <;> intro h1 q1
 refine ac ?_
 refine Tr.ret (Fin.then_ret (Fin.drop 0 (Fin.drop 0 (Fin.drop 0 (Fin.retD rfl (RVal.tmp rfl (Lr)) ?_ (List.Perm.refl _))))))
 · exact Lr
 exfalso; have := q1; omega
theorem w_dropIdnT {e : Ept} {c b : Chg} {wb ob : Nat} {v : Value} {x : Idn}  (h : 0 ≤ keyIdx c.number e.ids) (hx : e.ids[(keyIdx c.number e.ids).toNat]? = some x) (ht : ((e.ids.drop (keyIdx c.number e.ids + 1).toNat).any fun x => x.keyId == c.number) = true) (hl : e.ids.length ≤ 1000000) : FunD prog 172 [ptr wb 0] [resW wb ob c b, resO ob e (ints e.suites) (is v) (ints e.anchors) (ints e.hashes), oweRes 27 4 (e.ids.map rowId) v] (int 5) [] := by
 refine FunD.of func172 rfl rfl (by exact Nb rfl) fun M0 w0 S rs M1 w1 => ?_
 have hlt := lt_of_at hx
 refine ac ?_
 refine Tr.seq (Tr.regOne mixed 6 (by kernel_rfl) (ChOne.op rfl rfl (by decide) (kl1 rfl one156 rfl) (ChOne.op rfl rfl (by decide) (kl1 rfl one156 rfl) (ChOne.op rfl rfl (by decide) (okp_nilCheck rfl (vl rfl)) (ChOne.op rfl rfl (by decide) (okp_fieldAddr rfl fo159_1 (vl rfl)) (ChOne.op rfl rfl (by decide) (okp_fieldAddr rfl fo29_2 (vl rfl)) (ChOne.op rfl rfl (by decide) (ok_rd 0 rfl (rd_load1 rfl one3 (vl rfl) rfl)) ?_)))))))
 refine ChOne.turn _ rfl (by decide) (turn_call _ rfl rfl (w_idn (e := e) (c := c) (b := b) (key := c.number) rfl rfl rfl) ⟨ke rfl, ke rfl, trivial⟩ ((perm_at (j := 0) rfl).trans (List.Perm.cons _ ((perm_at (j := 0) rfl).trans (List.Perm.cons _ ((perm_at (j := 0) rfl).trans (List.Perm.cons _ (List.Perm.refl _)))))))) ?_
 refine ac ?_
 refine an ?_ ?_ <;> intro h1 q1
 exfalso; have := q1; omega
 refine ac ?_
 refine ap ?_
 refine tp rfl (ok_rd 2 rfl (rd_part rfl underlying30 sz27 (vl rfl) (vl rfl) (by omega) (by rw [List.length_map]; omega))) ?_
 refine tp rfl (ok_makeFunc rfl rfl) ?_
 refine TO.callD _ rfl rfl (by decide) rfl (w_twice (l := e.ids) (c := c) (b := b) (k := (keyIdx c.number e.ids + 1).toNat)) ⟨ke rfl, ke rfl, trivial⟩ ((perm_at (j := 0) rfl).trans (List.Perm.cons _ ((perm_at (j := 1) rfl).trans (List.Perm.cons _ (List.Perm.refl _))))) ?_
 refine ap ?_
 refine wk3 1 3 24 rfl ?_
 refine Tr.cn rfl ?_ ?_ <;> intro h2 q2
 refine ac ?_
 refine Tr.ret (Fin.then_ret (Fin.drop 0 (Fin.drop 0 (Fin.drop 0 (Fin.retD rfl (RVal.tmp rfl (Lr)) ?_ (List.Perm.refl _))))))
 · exact Lr
 rw [ht] at h2; exact absurd h2 (by decide)
theorem w_dropIdnY {e : Ept} {c b : Chg} {wb ob : Nat} {v : Value} {x : Idn}  (h : 0 ≤ keyIdx c.number e.ids) (hx : e.ids[(keyIdx c.number e.ids).toNat]? = some x) (ht : ((e.ids.drop (keyIdx c.number e.ids + 1).toNat).any fun x => x.keyId == c.number) = false) (hl : e.ids.length ≤ 1000000) : FunD prog 172 [ptr wb 0] [resW wb ob c b, resO ob e (ints e.suites) (is v) (ints e.anchors) (ints e.hashes), oweRes 27 4 (e.ids.map rowId) v] (int 0) [resW wb ob c ⟨b.endpoint, 5, b.number, keyIdx c.number e.ids, x⟩, resO ob e (ints e.suites) (idns (e.ids.eraseIdx (keyIdx c.number e.ids).toNat)) (ints e.anchors) (ints e.hashes)] := by
 refine FunD.of func172 rfl rfl (by exact Nb rfl) fun M0 w0 S rs M1 w1 => ?_
 have hlt := lt_of_at hx
 refine ac ?_
 refine Tr.seq (Tr.regOne mixed 6 (by kernel_rfl) (ChOne.op rfl rfl (by decide) (kl1 rfl one156 rfl) (ChOne.op rfl rfl (by decide) (kl1 rfl one156 rfl) (ChOne.op rfl rfl (by decide) (okp_nilCheck rfl (vl rfl)) (ChOne.op rfl rfl (by decide) (okp_fieldAddr rfl fo159_1 (vl rfl)) (ChOne.op rfl rfl (by decide) (okp_fieldAddr rfl fo29_2 (vl rfl)) (ChOne.op rfl rfl (by decide) (ok_rd 0 rfl (rd_load1 rfl one3 (vl rfl) rfl)) ?_)))))))
 refine ChOne.turn _ rfl (by decide) (turn_call _ rfl rfl (w_idn (e := e) (c := c) (b := b) (key := c.number) rfl rfl rfl) ⟨ke rfl, ke rfl, trivial⟩ ((perm_at (j := 0) rfl).trans (List.Perm.cons _ ((perm_at (j := 0) rfl).trans (List.Perm.cons _ ((perm_at (j := 0) rfl).trans (List.Perm.cons _ (List.Perm.refl _)))))))) ?_
 refine ac ?_
 refine an ?_ ?_ <;> intro h1 q1
 exfalso; have := q1; omega
 refine ac ?_
 refine ap ?_
 refine tp rfl (ok_rd 2 rfl (rd_part rfl underlying30 sz27 (vl rfl) (vl rfl) (by omega) (by rw [List.length_map]; omega))) ?_
 refine tp rfl (ok_makeFunc rfl rfl) ?_
 refine TO.callD _ rfl rfl (by decide) rfl (w_twice (l := e.ids) (c := c) (b := b) (k := (keyIdx c.number e.ids + 1).toNat)) ⟨ke rfl, ke rfl, trivial⟩ ((perm_at (j := 0) rfl).trans (List.Perm.cons _ ((perm_at (j := 1) rfl).trans (List.Perm.cons _ (List.Perm.refl _))))) ?_
 refine ap ?_
 refine wk3 1 3 24 rfl ?_
 refine Tr.cn rfl ?_ ?_ <;> intro h2 q2
 rw [ht] at h2; exact absurd h2 (by decide)
 refine ac ?_
 refine Tr.seq (Tr.rx ?_)
 refine ay ?_
 refine xrd 1 rfl rfl (rd_elp rfl underlying30 sz27 (vl rfl) (vl rfl) (by omega) (by rw [List.length_map]; omega)) ?_
 refine xrd 1 rfl rfl (rd_elload rfl agg27 sz27 (vl rfl) (map_rows fun _ => rfl) (by rw [List.getElem?_map, hx]; rfl)) ?_
 refine ay ?_
 refine Cx.nil ⟨by kernel_rfl, ?_⟩
 refine FinX.done al4 (Fin.go (wk2 1 3 rfl (Tr.seq (Tr.rx ?_))))
 refine ay ?_
 refine Cx.ef 1 rfl rfl (by decide) (ef_callc rfl rfl (by decide) rfl (w_DelWn (l := e.ids) (i := (keyIdx c.number e.ids).toNat) hlt hl) ⟨ke rfl, ⟨_, rfl, int_eq (by omega)⟩, ⟨_, rfl, int_eq (by omega)⟩, trivial⟩) ?_
 refine ay ?_
 refine Cx.nil ⟨by kernel_rfl, ?_⟩
 refine FinX.done al4 (Fin.go (Tr.weak [] trivial ?_))
 refine ac ?_
 refine Tr.ret (Fin.drop 1 (Fin.retD rfl (RVal.tmp rfl (Lr)) ?_ (List.Perm.refl _)))
 · exact Lr
def kindsP : List Pr := [is .nilFunc, fn (.func 167) [], fn (.func 168) [], fn (.func 169) [], fn (.func 170) [], fn (.func 171) [], fn (.func 172) [], fn (.func 173) [], fn (.func 174) [], fn (.func 175) [], fn (.func 176) [], fn (.func 177) [], fn (.func 178) []]
def noneB (x : Idn) : Bool := decide (x.alg = 0 ∧ x.bits = 0) && x.keyId == 0 && (((x.chain.length : Nat) : Int) == 0)
def leanB (c : Chg) : Bool := if c.kind = 1 then noneB c.idn else if c.kind = 5 then c.number == 0 else c.at_ == 0 && noneB c.idn
/-- Its lists are of some length. -/
structure Ept.small (e : Ept) : Prop where
 suites : e.suites.length ≤ 1000000
 anchors : e.anchors.length ≤ 1000000
 hashes : e.hashes.length ≤ 1000000
 idl : e.ids.length ≤ 1000000
 ids : ∀ x ∈ e.ids, x.small

theorem w_CopyC {c : Chg} (hx : c.idn.small) : Fun prog 118 [agg (rowChg c)] (agg (rowChg c)) := by
 refine fo func118 rfl ⟨rfl, rfl⟩ fun M0 w0 => (Tr.seq (Tr.regT ?_))
 refine TO.boxm rfl rfl (by decide) rfl (Va rfl) (fun b1 => ?_)
 refine Tl rfl rfl rfl rfl z29 zo29 (fun b2 => ?_)
 refine ap ?_
 refine ap ?_
 refine tp rfl (kc1 (w_copyId (x := c.idn) hx) rfl rfl) ?_
 refine ap ?_
 refine ap ?_
 refine Tr.drop 1 (Tr.ret (Fin.retX1 rfl (RVal.cell 0 rfl rfl agg29 sz29 rfl (Lr)) ?_))
 · exact Lr
theorem w_none {x : Idn}  : Fun prog 163 [agg (rowId x)] (bool (noneB x)) := by
 refine fo func163 rfl ⟨rfl, rfl⟩ fun M0 w0 => ?_
 · repeat' first | (refine bool_eq ?_; unfold noneB; simp_all) | refine co rfl (ok_eq24 rfl (vl rfl) (vl rfl)) (cm rfl ?_) | refine ac ?_ | (refine Ch.cg rfl rfl rfl ?_ ?_ <;> intro h q)
theorem w_lean {c : Chg}  : Fun prog 115 [agg (rowChg c)] (bool (leanB c)) := by
 refine fo func115 rfl ⟨rfl, rfl⟩ fun M0 w0 => ?_
 · repeat' first | (refine bool_eq ?_; unfold leanB; simp_all) | refine co rfl (kc1 (w_none (x := c.idn)) rfl rfl) ?_ | refine cy h rfl (kc1 (w_none (x := c.idn)) rfl rfl) ?_ | refine ac ?_ | (refine Tr.cn rfl ?_ ?_ <;> intro h q) | (refine Ch.cg rfl rfl rfl ?_ ?_ <;> intro h q)
theorem w_kinds   : Fun prog 117 [] (agg kindsP) := by
 refine fo func117 rfl ⟨rfl, rfl⟩ fun M0 w0 => (Tr.seq (Tr.regT ?_))
 refine Tl rfl rfl rfl rfl z161 zo161 (fun b1 => ?_)
 refine ap ?_
 refine ap ?_
 refine Tr.ret (Fin.retX1 rfl (RVal.cell 0 rfl rfl agg161 sz161 rfl (Lr)) ?_)
 · exact Lr
theorem w_CopyEn {e : Ept} (hsm : e.small) : FunV prog 116 [agg (rowEp e)] (fun x => agg (rowO e (ints e.suites) (is x) (ints e.anchors) (ints e.hashes))) (fun x => [oweRes 27 4 (e.ids.map rowId) x]) := by
 refine FunV.of func116 rfl rfl (by exact Nb rfl) fun M0 w0 S rs M1 w1 => ?_
 have hs1 := hsm.suites
 have hs2 := hsm.anchors
 have hs3 := hsm.hashes
 have hs4 := hsm.idl
 refine Tr.seq (Tr.regT ?_)
 refine TO.boxm rfl rfl (by decide) rfl (Va rfl) (fun b1 => ?_)
 refine Tl rfl rfl rfl rfl z32 zo32 (fun b2 => ?_)
 refine ao ?_
 refine Tr.seq (Tr.pad (Tr.rx ?_))
 refine ax ?_
 refine xo rfl (fun _ => kc1 (w_CloneFi (l := e.suites) hs1) rfl rfl) ?_
 refine ax ?_
 refine xo rfl (fun _ => kc1 (w_CloneFi (l := e.anchors) hs2) rfl rfl) ?_
 refine ax ?_
 refine xo rfl (fun _ => kc1 (w_CloneFi (l := e.hashes) hs3) rfl rfl) ?_
 refine ax ?_
 refine Cx.ef 0 rfl rfl (by decide) (ef_call rfl rfl (by decide) rfl (w_CloneWn (l := e.ids) hs4) ⟨ke rfl, trivial⟩) ?_
 refine xo rfl (fun _ => okp_fieldAddr rfl fo32_3 (vl rfl)) (Cx.ef0 2 rfl rfl (ef_store rfl rfl (vl rfl) (Vo rfl) sz22 rfl (by exact Nb rfl) rfl) (xo rfl (fun _ => okp_fieldAddr rfl fo32_6 (vl rfl)) (Cx.ef0 2 rfl rfl (ef_store rfl rfl (vl rfl) (Vo rfl) sz22 rfl (by exact Nb rfl) rfl) (xo rfl (fun _ => okp_fieldAddr rfl fo32_7 (vl rfl)) (Cx.ef0 2 rfl rfl (ef_store rfl rfl (vl rfl) (Vo rfl) sz22 rfl (by exact Nb rfl) rfl) (xo rfl (fun _ => okp_fieldAddr rfl fo32_5 (vl rfl)) (Cx.ef0 2 rfl rfl (ef_storeS rfl rfl rfl (vl rfl) rfl sz30 (by exact Nb rfl)) ?_)))))))
 refine Cx.nil ⟨by kernel_rfl, ?_⟩
 refine FinX.open2 0 2 16 rfl rfl (by decide) rfl (fun v1 => ?_)
 refine FinX.done al4 (Fin.go (wk2 1 2 rfl ?_))
 refine ac ?_
 refine co rfl (ok_rd 0 rfl (rd_lenW rfl underlying30 (Ka rfl))) ?_
 refine ac ?_
 refine Tr.block (Tr.re 23 rfl (int_eq (by rw [List.length_map])) (Tr.loopw [(1, _), (2, _), (22, _), (23, _)] (kk4 rfl) (fun k : Nat => [(24, int ((k : Nat) : Int))]) (fun k : Nat => k ≤ (e.ids).length) (fun k : Nat => (e.ids).length - k) 0 (Nat.zero_le _) ⟨ke rfl, trivial⟩ ?_))
 rintro k hle_k
 refine ac ?_
 refine Tr.seq ?_
 refine Tr.cn rfl ?_ ?_ <;> intro h1 q1
 have hk_k : k < (e.ids).length := lt_of_dec h1
 obtain ⟨x, hx_k⟩ := at_ hk_k
 have hxs := hsm.ids x (List.mem_of_getElem? hx_k)
 refine ac ?_
 refine ao ?_
 refine tp rfl (ok_rd 0 rfl (rd_elp rfl underlying30 sz27 (Ka rfl) (vl rfl) (by omega) (by rw [List.length_map]; omega))) ?_
 refine tp rfl (ok_rd 0 rfl (rd_elload rfl agg27 sz27 (vl rfl) (map_rows fun _ => rfl) (by rw [Int.toNat_natCast, List.getElem?_map, hx_k]; rfl))) ?_
 refine Tl rfl rfl rfl rfl z27 zo27 (fun b3 => ?_)
 refine tm rfl ?_
 refine sf 0 4 ⟨rfl, rfl, rfl⟩ rfl rfl rfl rfl ?_
 refine ao ?_
 refine Tr.rx ?_
 refine ax ?_
 refine xo rfl (fun _ => kc1 (w_copyId hxs) rfl rfl) ?_
 refine xrd 0 rfl rfl (rd_elp rfl underlying30 sz27 (Ka rfl) (vl rfl) (by omega) (by rw [List.length_map]; omega)) ?_
 refine Cx.ef0 0 rfl rfl (ef_elstore rfl rfl (vl rfl) (Va rfl) sz27 rfl (map_rows fun _ => rfl) (by rw [Int.toNat_natCast, List.getElem?_map, hx_k]; rfl) (by decide) (row_setI (f := rowId) (q := 0) (m := 4) hx_k rfl)) ?_
 refine Cx.nil ⟨by kernel_rfl, ?_⟩
 refine FinX.done al4 ?_
 refine ac ?_
 refine wk5 1 2 22 23 24 rfl ?_
 refine ac ?_
 exact Fin.fam_same (k + 1) ⟨hk_k, by omega⟩ ⟨⟨_, rfl, int_succ k⟩, ke rfl, ke rfl, ke rfl, ke rfl, trivial⟩
 have he_k : k = (e.ids).length := by have := ge_of_dec h1; omega
 subst he_k
 refine ac ?_
 refine ao ?_
 refine TO.store_all 1 rfl rfl rfl (vl rfl) (Va rfl) rfl sz32 rfl rfl ?_
 refine ao ?_
 refine Tr.drop 2 (Tr.ret (Fin.swap01 (Fin.retV v1 [_] rfl (RVal.cell 0 rfl rfl agg32 sz32 rfl (Lr)) ?_ (List.Perm.refl _))))
 · exact agg_le ⟨Lr, Lr, Lr, Lr, Lr, andIs_is _ _, Lr, Lr, Lr, trivial⟩
theorem w_CopyEs {e : Ept} (hsm : e.small) : FunV prog 116 [agg (rowEp e)] (fun x => agg (rowO e (is x) (idns e.ids) (ints e.anchors) (ints e.hashes))) (fun x => [oweRes 3 1 (e.suites.map fun n => [int n]) x]) := by
 refine FunV.of func116 rfl rfl (by exact Nb rfl) fun M0 w0 S rs M1 w1 => ?_
 have hs1 := hsm.suites
 have hs2 := hsm.anchors
 have hs3 := hsm.hashes
 have hs4 := hsm.idl
 refine Tr.seq (Tr.regT ?_)
 refine TO.boxm rfl rfl (by decide) rfl (Va rfl) (fun b1 => ?_)
 refine Tl rfl rfl rfl rfl z32 zo32 (fun b2 => ?_)
 refine ao ?_
 refine Tr.seq (Tr.pad (Tr.pad (Tr.rx ?_)))
 refine ax ?_
 refine Cx.ef 0 rfl rfl (by decide) (ef_call rfl rfl (by decide) rfl (w_CloneWi (l := e.suites) hs1) ⟨ke rfl, trivial⟩) ?_
 refine ax ?_
 refine xo rfl (fun _ => kc1 (w_CloneFi (l := e.anchors) hs2) rfl rfl) ?_
 refine ax ?_
 refine xo rfl (fun _ => kc1 (w_CloneFi (l := e.hashes) hs3) rfl rfl) ?_
 refine ax ?_
 refine Cx.ef 1 rfl rfl (by decide) (ef_call rfl rfl (by decide) rfl (w_CloneWn (l := e.ids) hs4) ⟨ke rfl, trivial⟩) ?_
 refine xo rfl (fun _ => okp_fieldAddr rfl fo32_3 (vl rfl)) (Cx.ef0 3 rfl rfl (ef_storeS rfl rfl rfl (vl rfl) rfl sz22 (by exact Nb rfl)) (xo rfl (fun _ => okp_fieldAddr rfl fo32_6 (vl rfl)) (Cx.ef0 3 rfl rfl (ef_storeW rfl rfl rfl (vl rfl) (Vo rfl) sz22 rfl (fun _ => by exact Nat.le_of_ble_eq_true rfl)) (xo rfl (fun _ => okp_fieldAddr rfl fo32_7 (vl rfl)) (Cx.ef0 3 rfl rfl (ef_storeW rfl rfl rfl (vl rfl) (Vo rfl) sz22 rfl (fun _ => by exact Nat.le_of_ble_eq_true rfl)) (xo rfl (fun _ => okp_fieldAddr rfl fo32_5 (vl rfl)) (Cx.ef0 3 rfl rfl (ef_storeT rfl rfl rfl (vl rfl) rfl sz30 (fun _ => by exact Nat.le_of_ble_eq_true rfl)) ?_)))))))
 refine Cx.nil ⟨by kernel_rfl, ?_⟩
 refine FinX.open3 0 1 3 7 16 rfl rfl rfl (by decide) (by decide) (by decide) (by decide) rfl rfl (fun v1 v2 => ?_)
 refine FinX.done al5 (Fin.go (wk2 1 2 rfl ?_))
 refine ac ?_
 refine co rfl (ok_rd 1 rfl (rd_lenW rfl underlying30 (Ka rfl))) ?_
 refine ac ?_
 refine Tr.block (Tr.re 23 rfl (int_eq (by rw [List.length_map])) (Tr.loopw [(1, _), (2, _), (22, _), (23, _)] (kk4 rfl) (fun k : Nat => [(24, int ((k : Nat) : Int))]) (fun k : Nat => k ≤ (e.ids).length) (fun k : Nat => (e.ids).length - k) 0 (Nat.zero_le _) ⟨ke rfl, trivial⟩ ?_))
 rintro k hle_k
 refine ac ?_
 refine Tr.seq ?_
 refine Tr.cn rfl ?_ ?_ <;> intro h1 q1
 have hk_k : k < (e.ids).length := lt_of_dec h1
 obtain ⟨x, hx_k⟩ := at_ hk_k
 have hxs := hsm.ids x (List.mem_of_getElem? hx_k)
 refine ac ?_
 refine ao ?_
 refine tp rfl (ok_rd 1 rfl (rd_elp rfl underlying30 sz27 (Ka rfl) (vl rfl) (by omega) (by rw [List.length_map]; omega))) ?_
 refine tp rfl (ok_rd 1 rfl (rd_elload rfl agg27 sz27 (vl rfl) (map_rows fun _ => rfl) (by rw [Int.toNat_natCast, List.getElem?_map, hx_k]; rfl))) ?_
 refine Tl rfl rfl rfl rfl z27 zo27 (fun b3 => ?_)
 refine tm rfl ?_
 refine sf 0 4 ⟨rfl, rfl, rfl⟩ rfl rfl rfl rfl ?_
 refine ao ?_
 refine Tr.rx ?_
 refine ax ?_
 refine xo rfl (fun _ => kc1 (w_copyId hxs) rfl rfl) ?_
 refine xrd 1 rfl rfl (rd_elp rfl underlying30 sz27 (Ka rfl) (vl rfl) (by omega) (by rw [List.length_map]; omega)) ?_
 refine Cx.ef0 1 rfl rfl (ef_elstore rfl rfl (vl rfl) (Va rfl) sz27 rfl (map_rows fun _ => rfl) (by rw [Int.toNat_natCast, List.getElem?_map, hx_k]; rfl) (by decide) (row_setI (f := rowId) (q := 0) (m := 4) hx_k rfl)) ?_
 refine Cx.nil ⟨by kernel_rfl, ?_⟩
 refine FinX.done al5 ?_
 refine ac ?_
 refine wk5 1 2 22 23 24 rfl ?_
 refine ac ?_
 exact Fin.fam_same (k + 1) ⟨hk_k, by omega⟩ ⟨⟨_, rfl, int_succ k⟩, ke rfl, ke rfl, ke rfl, ke rfl, trivial⟩
 have he_k : k = (e.ids).length := by have := ge_of_dec h1; omega
 subst he_k
 refine ac ?_
 refine Tr.seq (Tr.frzWC 3 1 5 rfl rfl (by decide) rfl (andIs_is _ _) (map_rows fun _ => rfl) ?_)
 refine ao ?_
 refine TO.store_all 2 rfl rfl rfl (vl rfl) (Va rfl) rfl sz32 rfl rfl ?_
 refine ao ?_
 refine Tr.drop 1 (Tr.drop 2 (Tr.ret (Fin.swap01 (Fin.retV v1 [_] rfl (RVal.cell 0 rfl rfl agg32 sz32 rfl (Lr)) ?_ (List.Perm.refl _)))))
 · exact agg_le ⟨Lr, Lr, Lr, andIs_is _ _, Lr, Lr, Lr, Lr, Lr, trivial⟩
end Go.Proofs.YtppeeogffbpcbaaGreat
