/-
  The law: a drift changes what a look finds, unless it changes the order or the fallback alone; going back forgets it.
-/
import Derived.Test.YtppeeogffbpcbaaGreatRows
import Derived.Test.YtppeeogffbpcbaaGreatHlAP6
set_option linter.all false
set_option maxRecDepth 40000
set_option maxHeartbeats 16000000
namespace Go.Proofs.YtppeeogffbpcbaaGreat
open Go Go.RowKit Cp Go.Proofs.Tryz
/-- A finding like another one, about something else. -/
def fN (a : Fnd) (k alg bits n : Int) : Fnd := ⟨a.src, a.host, a.machine, a.day, a.conf, k, a.subj, alg, bits, n, []⟩
def showF (a : Fnd) (e : Ept) : List Fnd := [fN a 5 0 0 e.least, fN a 4 0 0 e.most] ++ e.suites.map (fN a 2 0 0) ++ e.ids.map (fun x => fN a 3 x.alg x.bits x.keyId) ++ e.anchors.map (fN a 6 0 0) ++ e.hashes.map (fun n => fN a 1 n 0 0)
def frE (a : Fnd) (e : Ept) : List Fnd × Int := if checkF (fN a 4 0 0 1) = false then ([], 24) else if eptB e = false then ([], 19) else (normL (showF a e), 0)
theorem fN_fits {a : Fnd} {k alg bits n : Int} (h : a.fits) : (fN a k alg bits n).fits := ⟨h.host, h.subj, by show 0 ≤ maxLen; omega⟩
theorem hash_small : ∀ n : Nat, n < 23 → (catOf (n : Int)).kind = 1 → 1 ≤ n ∧ n ≤ 4 := by decide +kernel
theorem hash_str : ∀ n : Nat, n < 23 → (catOf (n : Int)).kind = 1 → strength (n : Int) 0 > 0 := by decide +kernel

theorem w_FOpen {a : Fnd} (hf : a.fits) : FunL (α := Nat) prog 151 [agg (rowF a)] [] (fun _ => True) (fun b => tup [ptr b 0, int (if checkF (fN a 4 0 0 1) then 0 else 24)]) (fun b => [cellsRes true b 191 (rowF (fN a 4 0 0 1) ++ [is (.slice none 0 0)])]) := by
 refine FunL.of func151 rfl rfl (by exact Nb rfl) fun M0 w0 S rs M1 w1 => (Tr.seq (Tr.regT ?_))
 refine TO.boxm rfl rfl (by decide) rfl (Va rfl) (fun b1 => ?_)
 refine tm rfl (tm rfl (TO.nil (Fin.go (Tr.seq (Tr.regT (tp rfl (ok_build (rows := []) rfl bl24 zo24 trivial rfl) (tp rfl (okp_fieldAddr rfl fo96_5 (vl rfl)) (TO.ef0 0 rfl rfl (ef_store rfl rfl (vl rfl) (Vo rfl) sz3 rfl (by exact Nb rfl) rfl) (tp rfl (okp_fieldAddr rfl fo96_7 (vl rfl)) (TO.ef0 0 rfl rfl (ef_store rfl rfl (vl rfl) (Va rfl) sz24 rfl (by exact Nb rfl) rfl) (tp rfl (okp_fieldAddr rfl fo96_8 (vl rfl)) (TO.ef0 0 rfl rfl (ef_store rfl rfl (vl rfl) (Vo rfl) sz3 rfl (by exact Nb rfl) rfl) (tp rfl (okp_fieldAddr rfl fo96_9 (vl rfl)) ?_)))))))))))))
 refine TO.ef0 0 rfl rfl (ef_store rfl rfl (vl rfl) (Vo rfl) sz9 rfl (by exact Nb rfl) rfl) (TO.nil (Fin.go (Tr.seq (Tr.pad (Tr.regX mixed [some (0, 1, false, 0), none, some (0, 0, true, 11), some (0, 1, false, 0), none, some (11, 0, true, 2), none] (by kernel_rfl) (xrd 1 rfl rfl (rd_loadA rfl agg96 sz96 (vl rfl) rfl rfl) (xo rfl (fun _ => ok_build (rows := [(0, _)]) rfl bl191 zo191 ⟨⟨rfl, (Va rfl)⟩, trivial⟩ rfl) (Cx.ef 0 rfl rfl (by decide) (ef_boxX rfl rfl (by decide) rfl (Va rfl)) (xrd 1 rfl rfl (rd_loadA rfl agg96 sz96 (vl rfl) rfl rfl) (xo rfl (fun _ => ok_call rfl (w_FCheck (f := fN a 4 0 0 1) (fN_fits hf)) ⟨ke rfl, trivial⟩) (Cx.ef 0 rfl rfl (by decide) (ef_move rfl rfl (by decide) rfl (vl rfl)) (xm rfl ?_))))))))))))
 refine Cx.nil ⟨rfl, ?_⟩
 refine FinX.open_ 0 2 rfl rfl (fun v1 => ?_)
 refine FinX.done (AllC.cons (AllC.cons (AllC.cons (AllC.map _)))) (Fin.opn 2 0 _ rfl rfl (fun _ => rfl) (fun b2 => ?_))
 refine Fin.go (Tr.drop 1 (wk2 2 3 rfl (Tr.ret (Fin.retL2 (b2) rfl (RVal.tmp rfl (Lr)) (RVal.tmp rfl (Lr)) trivial ?_ (List.Perm.refl _)))))
 · exact Lr
theorem w_FNote {a : Fnd} {l : List Fnd} {pb : Nat} {v : Value} {k alg bits n : Int} (hl : l.length ≤ 1000) : FunL (α := Value) prog 152 [ptr pb 0, int k, agg [int alg, int bits], int n] [cellsRes true pb 191 (rowF a ++ [andIs v (fnds l)]), appRes 96 11 v] (fun _ => True) (fun _ => unit_) (fun x => [cellsRes true pb 191 (rowF a ++ [andIs x (fnds (l ++ [⟨a.src, a.host, a.machine, a.day, a.conf, k, a.subj, alg, bits, n, a.text⟩]))]), appRes 96 11 x]) := by
 refine FunL.of func152 rfl rfl (by exact Nb rfl) fun M0 w0 S rs M1 w1 => ?_
 refine ac ?_
 refine ap ?_
 refine Tl rfl rfl rfl rfl z96 zo96 (fun b1 => ?_)
 refine ap ?_
 refine Tr.seq (Tr.rx ?_)
 refine ax ?_
 refine Cx.ef0 0 rfl rfl (ef_store rfl rfl (vl rfl) (Vo rfl) sz3 rfl (by exact Nb rfl) rfl) (xo rfl (fun _ => okp_fieldAddr rfl fo96_7 (vl rfl)) (Cx.ef0 0 rfl rfl (ef_store rfl rfl (vl rfl) (Va rfl) sz24 rfl (by exact Nb rfl) rfl) (xo rfl (fun _ => okp_fieldAddr rfl fo96_8 (vl rfl)) (Cx.ef0 0 rfl rfl (ef_store rfl rfl (vl rfl) (Vo rfl) sz3 rfl (by exact Nb rfl) rfl) ?_))))
 refine Cx.nil ⟨by kernel_rfl, ?_⟩
 refine FinX.done al4 (Fin.go (Tr.pad (Tr.rx ?_)))
 refine ax ?_
 refine xo rfl (fun _ => ok_buildSlice (xs := [.tmp 24]) (rows := [_]) rfl rfl underlying92 sz96 z96 rfl (by decide) ⟨⟨(by exact rfl), (Va rfl)⟩, trivial⟩ (by decide)) ?_
 refine Cx.ef 3 rfl rfl (by decide) (eApp rfl rfl rfl rfl underlying92 sz96 by96 z96 (Kb rfl) (Kf rfl) (appR_is (by exact List.Mem.head _) (Ka rfl))) ?_
 refine ax ?_
 refine Cx.ef0 2 rfl rfl (ef_storeS rfl rfl rfl (vl rfl) rfl sz92 (by exact Nb rfl)) ?_
 refine Cx.nil ⟨by kernel_rfl, ?_⟩
 refine FinX.open2 3 2 26 rfl rfl (by decide) rfl (fun v1 => ?_)
 refine FinX.done al5 ?_
 refine Fin.reC 2 (rowF a ++ [andIs v1 (fnds (l ++ [⟨a.src, a.host, a.machine, a.day, a.conf, k, a.subj, alg, bits, n, a.text⟩]))]) rfl ⟨Lr, Lr, Lr, Lr, Lr, Lr, Lr, Lr, Lr, Lr, Lr, own_le (by rw [List.map_append]; rfl), trivial⟩ ?_
 refine Fin.drop 0 (Fin.drop 0 (Fin.retL0 (v1) rfl trivial (List.Perm.refl _)))
theorem show_ok {a : Fnd} {e : Ept} (ha : checkF (fN a 4 0 0 1) = true) (he : eptB e = true) : (∀ f ∈ showF a e, checkF f = true) ∧ (showF a e).length < 50 := by
 have ok := eptB_iff.1 he
 have hc : ∀ k alg bits n, contentF (fN a k alg bits n) = true → checkF (fN a k alg bits n) = true := by
  intro k alg bits n h
  unfold checkF at ha ⊢
  simp only [Bool.and_eq_true] at ha ⊢
  exact ⟨⟨⟨⟨ha.1.1.1.1, ha.1.1.1.2⟩, ha.1.1.2⟩, ha.1.2⟩, h⟩
 have hh : ∀ n ∈ e.hashes, 1 ≤ n ∧ n ≤ 4 ∧ strength n 0 > 0 := by
  intro n hn
  have h1 := List.all_eq_true.1 ok.hsh n hn
  unfold hashB at h1
  have h2 : (catOf n).kind = 1 := by simpa using h1
  have h3 : 0 ≤ n ∧ n < 23 := by
   refine Decidable.byContradiction fun hb => ?_
   unfold catOf at h2; rw [if_neg (by omega)] at h2; exact absurd h2 (by decide)
  obtain ⟨m, rfl⟩ : ∃ m : Nat, n = (m : Int) := ⟨n.toNat, by omega⟩
  have h4 := hash_small m (by omega) h2
  exact ⟨by omega, by omega, hash_str m (by omega) h2⟩
 refine ⟨fun f hf => ?_, ?_⟩
 ·
  unfold showF at hf
  simp only [List.mem_append, List.mem_map, List.mem_cons, List.not_mem_nil, or_false] at hf
  have h1 := ok.least; have h2 := ok.lm; have h3 := ok.most
  rcases hf with ((((h | h) | ⟨n, hn, rfl⟩) | ⟨x, hx, rfl⟩) | ⟨n, hn, rfl⟩) | ⟨n, hn, rfl⟩
  · subst h; exact hc _ _ _ _ (by simp [contentF, bareF, fN]; exact ⟨decide_eq_true (by omega), decide_eq_true (by omega)⟩)
  · subst h; exact hc _ _ _ _ (by simp [contentF, bareF, fN]; exact ⟨decide_eq_true (by omega), decide_eq_true (by omega)⟩)
  ·
   have hn2 : 1 ≤ n ∧ n ≤ 16 := by
    obtain ⟨j, hj⟩ := List.getElem?_of_mem hn
    have h4 := allI_iff.1 (show allI (suiteAt e.suites) e.suites.length = true from ok.suites) j (lt_of_at hj)
    unfold suiteAt at h4; rw [getD_at hj] at h4
    have := and1 h4
    simpa using this
   exact hc _ _ _ _ (by simp [contentF, bareF, fN]; exact ⟨decide_eq_true (by omega), decide_eq_true (by omega)⟩)
  ·
   have h4 := List.all_eq_true.1 ok.ids x hx
   unfold idB showsB ofB keyB at h4
   simp only [Bool.and_eq_true, decide_eq_true_eq] at h4
   exact hc _ _ _ _ (by simp only [contentF, fN]; simp; simp_all)
  ·
   have h4 := List.all_eq_true.1 ok.keys n hn
   unfold keyB at h4
   simp only [Bool.and_eq_true, decide_eq_true_eq] at h4
   exact hc _ _ _ _ (by simp [contentF, bareF, fN]; exact ⟨decide_eq_true (by omega), decide_eq_true (by omega)⟩)
  · exact hc _ _ _ _ (by simp [contentF, fN, (hh n hn).2.2])
 ·
  have h1 := suites_16 ok.suites; have h2 := ok.idl; have h3 := ok.ancl
  have h4 : e.hashes.length ≤ 5 := by
   have := pigeon 4 e.hashes (fun n hn => ⟨(hh n hn).1, by have := (hh n hn).2.1; omega⟩) ((ascI_of ok.hash).imp fun h => by omega)
   omega
  unfold showF
  simp only [List.length_append, List.length_map, List.length_cons, List.length_nil]; omega


def frC (a : Fnd) (e : Ept) : Int := if checkF (fN a 4 0 0 1) = false then 24 else if eptB e = false then 19 else 0
theorem frC_bad {a : Fnd} {e : Ept} (h : frC a e ≠ 0) : frE a e = ([], frC a e) := by
 unfold frC frE at *
 split
 · rfl
 ·
  split
  · rfl
  next h1 h2 => rw [if_neg h1, if_neg h2] at h; exact absurd rfl h
theorem frC_ok {a : Fnd} {e : Ept} (h : frC a e = 0) : checkF (fN a 4 0 0 1) = true ∧ eptB e = true := by
 unfold frC at h
 cases h1 : checkF (fN a 4 0 0 1)
 · rw [if_pos h1] at h; cases h
 ·
  rw [if_neg (by rw [h1]; decide)] at h
  cases h2 : eptB e
  · rw [if_pos h2] at h; cases h
  · exact ⟨rfl, rfl⟩
theorem show_fits {a : Fnd} {e : Ept} (h : a.fits) : ∀ f ∈ showF a e, f.fits := by
 intro f hf
 unfold showF at hf
 simp only [List.mem_append, List.mem_map, List.mem_cons, List.not_mem_nil, or_false] at hf
 rcases hf with ((((h1 | h1) | ⟨n, hn, rfl⟩) | ⟨x, hx, rfl⟩) | ⟨n, hn, rfl⟩) | ⟨n, hn, rfl⟩
 · subst h1; exact fN_fits h
 · subst h1; exact fN_fits h
 all_goals exact fN_fits h

theorem w_FromE {a : Fnd} {e : Ept} (hf : a.fits) (he : e.fits) : Fun prog 109 [agg (rowF a), agg (rowEp e)] (tup [fnds (frE a e).1, int (frE a e).2]) := by
 refine fo func109 rfl ⟨rfl, rfl⟩ fun M0 w0 => ?_
 refine ac ?_
 refine ao ?_
 refine TO.callL _ rfl rfl (by decide) rfl (w_FOpen (a := a) hf) ⟨ke rfl, trivial⟩ (List.Perm.refl _) (fun x1 _ => ?_)
 refine ao ?_
 refine wk3 3 6 7 rfl (Tr.cutk [3, 6] [(7, int (frC a e))] (True) ?_ (fun h1 => ?_))
 refine an ?_ ?_ <;> intro h2 q2
 refine ac ?_
 refine co rfl (kc1 (w_ECheck he) rfl rfl) ?_
 refine ac ?_
 exact Fin.fam_same () trivial ⟨⟨_, rfl, int_eq (by unfold frC; cases h_ : eptB e <;> simp_all)⟩, ke rfl, ke rfl, trivial⟩
 refine Tr.skip ?_
 exact Fin.fam_same () trivial ⟨⟨_, rfl, int_eq (by unfold frC; cases h_ : eptB e <;> simp_all)⟩, ke rfl, ke rfl, trivial⟩
 refine an ?_ ?_ <;> intro h3 q3
 have hA := frC_bad (a := a) (e := e) (by have := q3; omega)
 refine ac ?_
 refine Tr.ret (Fin.then_ret (Fin.ret2 rfl (OutW.bse _ _) rfl ?_ rfl ?_))
 · rw [hA]; exact nil_slice 11
 · exact int_eq (by rw [hA])
 obtain ⟨hck, hce⟩ := frC_ok (a := a) (e := e) (by have := q3; omega)
 have hA : frE a e = (normL (showF a e), 0) := by unfold frE; rw [if_neg (by rw [hck]; decide), if_neg (by rw [hce]; decide)]
 have hsh := show_ok hck hce
 have hfit := show_fits (a := a) (e := e) hf
 have hb1 := suites_16 (eptB_iff.1 hce).suites
 have hb2 := (eptB_iff.1 hce).idl
 have hb3 := (eptB_iff.1 hce).ancl
 have hb4 := hsh.2
 unfold showF at hb4
 simp only [List.length_append, List.length_map, List.length_cons, List.length_nil] at hb4
 refine ac ?_
 refine Tr.seq (Tr.addnil 96 11 (Tr.reC 1 (rowF (fN a 4 0 0 1) ++ [andIs (.slice none 0 0) (fnds ([]))]) rfl ⟨Lr, Lr, Lr, Lr, Lr, Lr, Lr, Lr, Lr, Lr, Lr, own_nil rfl, trivial⟩ ?_))
 refine ao ?_
 refine TO.callL _ rfl rfl (by decide) rfl (w_FNote (l := ([] : List Fnd)) (by simp only [List.length_append, List.length_map, List.length_take, List.length_cons, List.length_nil]; omega)) ⟨ke rfl, ke rfl, ke rfl, ke rfl, trivial⟩ ((perm_at (j := 1) rfl).trans (List.Perm.cons _ ((perm_at (j := 0) rfl).trans (List.Perm.cons _ (List.Perm.refl _))))) (fun x2 _ => ?_)
 refine ao ?_
 refine ao ?_
 refine TO.callL _ rfl rfl (by decide) rfl (w_FNote (l := _) (by simp only [List.length_append, List.length_map, List.length_take, List.length_cons, List.length_nil]; omega)) ⟨ke rfl, ke rfl, ke rfl, ke rfl, trivial⟩ ((perm_at (j := 0) rfl).trans (List.Perm.cons _ ((perm_at (j := 0) rfl).trans (List.Perm.cons _ (List.Perm.refl _))))) (fun x3 _ => ?_)
 refine ao ?_
 refine wk2 3 6 rfl ?_
 refine ac ?_
 refine Tr.block (Tr.reC 0 (rowF (fN a 4 0 0 1) ++ [andIs x3 (fnds (([fN a 5 0 0 e.least, fN a 4 0 0 e.most] : List Fnd) ++ (e.suites.take 0).map (fN a 2 0 0)))]) rfl ⟨Lr, Lr, Lr, Lr, Lr, Lr, Lr, Lr, Lr, Lr, Lr, own_le (rfl), trivial⟩ (Tr.loopV1 [(3, _), (6, _), (39, _), (40, _)] ⟨ke rfl, ke rfl, ke rfl, ke rfl, trivial⟩ (fun k v0 => [(41, int ((k : Nat) : Int))]) (fun k v0 => Hp M0 w0 noS ([cellsRes true x1 191 (rowF (fN a 4 0 0 1) ++ [andIs v0 (fnds (([fN a 5 0 0 e.least, fN a 4 0 0 e.most] : List Fnd) ++ (e.suites.take k).map (fN a 2 0 0)))]), appRes 96 11 v0])) (fun k : Nat => k ≤ (e.suites).length) (fun k : Nat => (e.suites).length - k) 0 x3 (Nat.zero_le _) ⟨ke rfl, trivial⟩ (fun _ _ h => h) ?_))
 rintro k v0 hle_k
 refine ac ?_
 refine Tr.seq ?_
 refine Tr.cn rfl ?_ ?_ <;> intro h4 q4
 have hk_k : k < (e.suites).length := lt_of_dec h4
 obtain ⟨c, hx_k⟩ := at_ hk_k
 refine ac ?_
 refine Tr.seq (Tr.block (Tr.seq (Tr.reg0 (co rfl (ok_indexAddr rfl underlying22 sz3 (vl rfl) (vl rfl) (by omega) (by exact row_at (by assumption))) ?_))))
 refine ac ?_
 refine ao ?_
 refine TO.callL _ rfl rfl (by decide) rfl (w_FNote (l := ([fN a 5 0 0 e.least, fN a 4 0 0 e.most] : List Fnd) ++ (e.suites.take k).map (fN a 2 0 0)) (by simp only [List.length_append, List.length_map, List.length_take, List.length_cons, List.length_nil]; omega)) ⟨ke rfl, ke rfl, ke rfl, ke rfl, trivial⟩ ((perm_at (j := 0) rfl).trans (List.Perm.cons _ ((perm_at (j := 0) rfl).trans (List.Perm.cons _ (List.Perm.refl _))))) (fun x4 _ => ?_)
 refine ao ?_
 refine ac ?_
 refine Fin.reC 0 (rowF (fN a 4 0 0 1) ++ [andIs x4 (fnds (([fN a 5 0 0 e.least, fN a 4 0 0 e.most] : List Fnd) ++ (e.suites.take (k + 1)).map (fN a 2 0 0)))]) rfl ⟨Lr, Lr, Lr, Lr, Lr, Lr, Lr, Lr, Lr, Lr, Lr, own_le (by rw [← snocM (f := (fN a 2 0 0)) hx_k, ← List.append_assoc]; rfl), trivial⟩ ?_
 exact Fin.famV1 (k + 1) x4 (⟨hk_k, by omega⟩) ⟨⟨_, rfl, int_succ k⟩, ke rfl, ke rfl, ke rfl, ke rfl, trivial⟩ (fun _ _ h => h)
 have he_k : k = (e.suites).length := by have := ge_of_dec h4; omega
 subst he_k
 rw [List.take_length]
 refine a2 ?_
 refine Tr.block (Tr.reC 0 (rowF (fN a 4 0 0 1) ++ [andIs v0 (fnds (([fN a 5 0 0 e.least, fN a 4 0 0 e.most] : List Fnd) ++ e.suites.map (fN a 2 0 0) ++ (e.ids.take 0).map (fun x : Idn => fN a 3 x.alg x.bits x.keyId)))]) rfl ⟨Lr, Lr, Lr, Lr, Lr, Lr, Lr, Lr, Lr, Lr, Lr, own_le (by rw [List.take_zero, List.map_nil, List.append_nil]), trivial⟩ (Tr.loopV1 [(3, _), (6, _), (51, _), (52, _)] ⟨ke rfl, ke rfl, ke rfl, ke rfl, trivial⟩ (fun m v1 => [(53, int ((m : Nat) : Int))]) (fun m v1 => Hp M0 w0 noS ([cellsRes true x1 191 (rowF (fN a 4 0 0 1) ++ [andIs v1 (fnds (([fN a 5 0 0 e.least, fN a 4 0 0 e.most] : List Fnd) ++ e.suites.map (fN a 2 0 0) ++ (e.ids.take m).map (fun x : Idn => fN a 3 x.alg x.bits x.keyId)))]), appRes 96 11 v1])) (fun m : Nat => m ≤ (e.ids).length) (fun m : Nat => (e.ids).length - m) 0 v0 (Nat.zero_le _) ⟨ke rfl, trivial⟩ (fun _ _ h => h) ?_))
 rintro m v1 hle_m
 refine ac ?_
 refine Tr.seq ?_
 refine Tr.cn rfl ?_ ?_ <;> intro h5 q5
 have hk_m : m < (e.ids).length := lt_of_dec h5
 obtain ⟨x, hx_m⟩ := at_ hk_m
 refine ac ?_
 refine Tr.seq (Tr.block (Tr.seq (Tr.regT (tp rfl (ok_indexAddr rfl underlying30 sz27 (vl rfl) (vl rfl) (by omega) (by exact row_at (by assumption))) ?_))))
 refine tp rfl (ok_loadA rfl agg27 sz27 (vl rfl) rfl rfl) ?_
 refine Tl rfl rfl rfl rfl z27 zo27 (fun b1 => ?_)
 refine sf 0 11 ⟨rfl, rfl, rfl⟩ rfl rfl rfl rfl ?_
 refine ao ?_
 refine ao ?_
 refine TO.callL _ rfl rfl (by decide) rfl (w_FNote (l := ([fN a 5 0 0 e.least, fN a 4 0 0 e.most] : List Fnd) ++ e.suites.map (fN a 2 0 0) ++ (e.ids.take m).map (fun x : Idn => fN a 3 x.alg x.bits x.keyId)) (by simp only [List.length_append, List.length_map, List.length_take, List.length_cons, List.length_nil]; omega)) ⟨ke rfl, ke rfl, ke rfl, ke rfl, trivial⟩ ((perm_at (j := 0) rfl).trans (List.Perm.cons _ ((perm_at (j := 0) rfl).trans (List.Perm.cons _ (List.Perm.refl _))))) (fun x5 _ => ?_)
 refine ao ?_
 refine wk5 3 6 51 52 53 rfl ?_
 refine ac ?_
 refine Fin.reC 0 (rowF (fN a 4 0 0 1) ++ [andIs x5 (fnds (([fN a 5 0 0 e.least, fN a 4 0 0 e.most] : List Fnd) ++ e.suites.map (fN a 2 0 0) ++ (e.ids.take (m + 1)).map (fun x : Idn => fN a 3 x.alg x.bits x.keyId)))]) rfl ⟨Lr, Lr, Lr, Lr, Lr, Lr, Lr, Lr, Lr, Lr, Lr, own_le (by rw [← snocM (f := (fun x : Idn => fN a 3 x.alg x.bits x.keyId)) hx_m, ← List.append_assoc]; rfl), trivial⟩ ?_
 exact Fin.famV1 (m + 1) x5 (⟨hk_m, by omega⟩) ⟨⟨_, rfl, int_succ m⟩, ke rfl, ke rfl, ke rfl, ke rfl, trivial⟩ (fun _ _ h => h)
 have he_m : m = (e.ids).length := by have := ge_of_dec h5; omega
 subst he_m
 rw [List.take_length]
 refine a2 ?_
 refine Tr.block (Tr.reC 0 (rowF (fN a 4 0 0 1) ++ [andIs v1 (fnds (([fN a 5 0 0 e.least, fN a 4 0 0 e.most] : List Fnd) ++ e.suites.map (fN a 2 0 0) ++ e.ids.map (fun x : Idn => fN a 3 x.alg x.bits x.keyId) ++ (e.anchors.take 0).map (fN a 6 0 0)))]) rfl ⟨Lr, Lr, Lr, Lr, Lr, Lr, Lr, Lr, Lr, Lr, Lr, own_le (by rw [List.take_zero, List.map_nil, List.append_nil]), trivial⟩ (Tr.loopV1 [(3, _), (6, _), (65, _), (66, _)] ⟨ke rfl, ke rfl, ke rfl, ke rfl, trivial⟩ (fun o v2 => [(67, int ((o : Nat) : Int))]) (fun o v2 => Hp M0 w0 noS ([cellsRes true x1 191 (rowF (fN a 4 0 0 1) ++ [andIs v2 (fnds (([fN a 5 0 0 e.least, fN a 4 0 0 e.most] : List Fnd) ++ e.suites.map (fN a 2 0 0) ++ e.ids.map (fun x : Idn => fN a 3 x.alg x.bits x.keyId) ++ (e.anchors.take o).map (fN a 6 0 0)))]), appRes 96 11 v2])) (fun o : Nat => o ≤ (e.anchors).length) (fun o : Nat => (e.anchors).length - o) 0 v1 (Nat.zero_le _) ⟨ke rfl, trivial⟩ (fun _ _ h => h) ?_))
 rintro o v2 hle_o
 refine ac ?_
 refine Tr.seq ?_
 refine Tr.cn rfl ?_ ?_ <;> intro h6 q6
 have hk_o : o < (e.anchors).length := lt_of_dec h6
 obtain ⟨c, hx_o⟩ := at_ hk_o
 refine ac ?_
 refine Tr.seq (Tr.block (Tr.seq (Tr.reg0 (co rfl (ok_indexAddr rfl underlying22 sz3 (vl rfl) (vl rfl) (by omega) (by exact row_at (by assumption))) ?_))))
 refine ac ?_
 refine ao ?_
 refine TO.callL _ rfl rfl (by decide) rfl (w_FNote (l := ([fN a 5 0 0 e.least, fN a 4 0 0 e.most] : List Fnd) ++ e.suites.map (fN a 2 0 0) ++ e.ids.map (fun x : Idn => fN a 3 x.alg x.bits x.keyId) ++ (e.anchors.take o).map (fN a 6 0 0)) (by simp only [List.length_append, List.length_map, List.length_take, List.length_cons, List.length_nil]; omega)) ⟨ke rfl, ke rfl, ke rfl, ke rfl, trivial⟩ ((perm_at (j := 0) rfl).trans (List.Perm.cons _ ((perm_at (j := 0) rfl).trans (List.Perm.cons _ (List.Perm.refl _))))) (fun x6 _ => ?_)
 refine ao ?_
 refine ac ?_
 refine Fin.reC 0 (rowF (fN a 4 0 0 1) ++ [andIs x6 (fnds (([fN a 5 0 0 e.least, fN a 4 0 0 e.most] : List Fnd) ++ e.suites.map (fN a 2 0 0) ++ e.ids.map (fun x : Idn => fN a 3 x.alg x.bits x.keyId) ++ (e.anchors.take (o + 1)).map (fN a 6 0 0)))]) rfl ⟨Lr, Lr, Lr, Lr, Lr, Lr, Lr, Lr, Lr, Lr, Lr, own_le (by rw [← snocM (f := (fN a 6 0 0)) hx_o, ← List.append_assoc]; rfl), trivial⟩ ?_
 exact Fin.famV1 (o + 1) x6 (⟨hk_o, by omega⟩) ⟨⟨_, rfl, int_succ o⟩, ke rfl, ke rfl, ke rfl, ke rfl, trivial⟩ (fun _ _ h => h)
 have he_o : o = (e.anchors).length := by have := ge_of_dec h6; omega
 subst he_o
 rw [List.take_length]
 refine a2 ?_
 refine Tr.block (Tr.reC 0 (rowF (fN a 4 0 0 1) ++ [andIs v2 (fnds (([fN a 5 0 0 e.least, fN a 4 0 0 e.most] : List Fnd) ++ e.suites.map (fN a 2 0 0) ++ e.ids.map (fun x : Idn => fN a 3 x.alg x.bits x.keyId) ++ e.anchors.map (fN a 6 0 0) ++ (e.hashes.take 0).map (fun n : Int => fN a 1 n 0 0)))]) rfl ⟨Lr, Lr, Lr, Lr, Lr, Lr, Lr, Lr, Lr, Lr, Lr, own_le (by rw [List.take_zero, List.map_nil, List.append_nil]), trivial⟩ (Tr.loopV1 [(6, _), (77, _), (78, _)] ⟨ke rfl, ke rfl, ke rfl, trivial⟩ (fun q v3 => [(79, int ((q : Nat) : Int))]) (fun q v3 => Hp M0 w0 noS ([cellsRes true x1 191 (rowF (fN a 4 0 0 1) ++ [andIs v3 (fnds (([fN a 5 0 0 e.least, fN a 4 0 0 e.most] : List Fnd) ++ e.suites.map (fN a 2 0 0) ++ e.ids.map (fun x : Idn => fN a 3 x.alg x.bits x.keyId) ++ e.anchors.map (fN a 6 0 0) ++ (e.hashes.take q).map (fun n : Int => fN a 1 n 0 0)))]), appRes 96 11 v3])) (fun q : Nat => q ≤ (e.hashes).length) (fun q : Nat => (e.hashes).length - q) 0 v2 (Nat.zero_le _) ⟨ke rfl, trivial⟩ (fun _ _ h => h) ?_))
 rintro q v3 hle_q
 refine ac ?_
 refine Tr.seq ?_
 refine Tr.cn rfl ?_ ?_ <;> intro h7 q7
 have hk_q : q < (e.hashes).length := lt_of_dec h7
 obtain ⟨c, hx_q⟩ := at_ hk_q
 refine ac ?_
 refine Tr.seq (Tr.block (Tr.seq (Tr.reg0 (co rfl (ok_indexAddr rfl underlying22 sz3 (vl rfl) (vl rfl) (by omega) (by exact row_at (by assumption))) ?_))))
 refine ac ?_
 refine ao ?_
 refine TO.callL _ rfl rfl (by decide) rfl (w_FNote (l := ([fN a 5 0 0 e.least, fN a 4 0 0 e.most] : List Fnd) ++ e.suites.map (fN a 2 0 0) ++ e.ids.map (fun x : Idn => fN a 3 x.alg x.bits x.keyId) ++ e.anchors.map (fN a 6 0 0) ++ (e.hashes.take q).map (fun n : Int => fN a 1 n 0 0)) (by simp only [List.length_append, List.length_map, List.length_take, List.length_cons, List.length_nil]; omega)) ⟨ke rfl, ke rfl, ke rfl, ke rfl, trivial⟩ ((perm_at (j := 0) rfl).trans (List.Perm.cons _ ((perm_at (j := 0) rfl).trans (List.Perm.cons _ (List.Perm.refl _))))) (fun x7 _ => ?_)
 refine ao ?_
 refine ac ?_
 refine Fin.reC 0 (rowF (fN a 4 0 0 1) ++ [andIs x7 (fnds (([fN a 5 0 0 e.least, fN a 4 0 0 e.most] : List Fnd) ++ e.suites.map (fN a 2 0 0) ++ e.ids.map (fun x : Idn => fN a 3 x.alg x.bits x.keyId) ++ e.anchors.map (fN a 6 0 0) ++ (e.hashes.take (q + 1)).map (fun n : Int => fN a 1 n 0 0)))]) rfl ⟨Lr, Lr, Lr, Lr, Lr, Lr, Lr, Lr, Lr, Lr, Lr, own_le (by rw [← snocM (f := (fun n : Int => fN a 1 n 0 0)) hx_q, ← List.append_assoc]; rfl), trivial⟩ ?_
 exact Fin.famV1 (q + 1) x7 (⟨hk_q, by omega⟩) ⟨⟨_, rfl, int_succ q⟩, ke rfl, ke rfl, ke rfl, trivial⟩ (fun _ _ h => h)
 have he_q : q = (e.hashes).length := by have := ge_of_dec h7; omega
 subst he_q
 rw [List.take_length]
 refine a2 ?_
 refine co rfl (ok_call rfl (w_FNorm (l := showF a e) hsh.1 hfit hsh.2) ⟨⟨_, rfl, Pr.le_trans (andIs_le _ _) (Pr.le_of_eq rfl)⟩, trivial⟩) ?_
 refine ac ?_
 refine wk2 4 5 rfl (Tr.ret (Fin.ret2 rfl (OutW.bse _ _) rfl ?_ rfl ?_))
 · rw [hA]; exact Lr
 · exact int_eq (by rw [hA])
def driftH (h : Hst) (c : Chg) : Hst × Int := if (doneR h.ep c).2.2 = 0 then (⟨(doneR h.ep c).1, h.bef⟩, 0) else (h, (doneR h.ep c).2.2)
abbrev tls : List UInt8 := [116, 108, 115]
def atF (nm : List UInt8) (d : Int) : Fnd := ⟨3, nm, 1, d, 90, 4, tls, 0, 0, 1, []⟩
theorem atF_fN (nm : List UInt8) (d : Int) : fN (atF nm d) 4 0 0 1 = atF nm d := rfl
theorem atF_ok {nm : List UInt8} {d : Int} (hn : named nm = true) (hd : 0 ≤ d ∧ d ≤ 40000) : checkF (atF nm d) = true := by
 have ht : named tls = true := by decide
 simp [checkF, whereF, whenF, contentF, bareF, atF, hn, ht, hd.1, hd.2]
theorem atF_fits {nm : List UInt8} {d : Int} (hn : nm.length ≤ maxLen) : (atF nm d).fits := ⟨hn, by show 3 ≤ maxLen; unfold maxLen; omega, by show 0 ≤ maxLen; omega⟩
theorem frE_ok {nm : List UInt8} {d : Int} {e : Ept} (hn : named nm = true) (hd : 0 ≤ d ∧ d ≤ 40000) (he : eptB e = true) : frE (atF nm d) e = (normL (showF (atF nm d) e), 0) := by
 unfold frE; rw [atF_fN, if_neg (by rw [atF_ok hn hd]; decide), if_neg (by rw [he]; decide)]
/-- What is shown, part by part. -/
structure ShowEq (e x : Ept) : Prop where
 least : e.least = x.least
 most : e.most = x.most
 suites : ∀ n, n ∈ e.suites ↔ n ∈ x.suites
 ids : ∀ a b k, (∃ y ∈ e.ids, y.alg = a ∧ y.bits = b ∧ y.keyId = k) ↔ ∃ y ∈ x.ids, y.alg = a ∧ y.bits = b ∧ y.keyId = k
 anchors : ∀ n, n ∈ e.anchors ↔ n ∈ x.anchors
 hashes : ∀ n, n ∈ e.hashes ↔ n ∈ x.hashes
theorem mem_show {a : Fnd} {e : Ept} {k alg bits n : Int} : fN a k alg bits n ∈ showF a e ↔ (k = 5 ∧ alg = 0 ∧ bits = 0 ∧ n = e.least) ∨ (k = 4 ∧ alg = 0 ∧ bits = 0 ∧ n = e.most) ∨ (k = 2 ∧ alg = 0 ∧ bits = 0 ∧ n ∈ e.suites) ∨ (k = 3 ∧ ∃ y ∈ e.ids, y.alg = alg ∧ y.bits = bits ∧ y.keyId = n) ∨ (k = 6 ∧ alg = 0 ∧ bits = 0 ∧ n ∈ e.anchors) ∨ (k = 1 ∧ bits = 0 ∧ n = 0 ∧ alg ∈ e.hashes) := by
 have inj : ∀ k' a' b' n', fN a k alg bits n = fN a k' a' b' n' ↔ k = k' ∧ alg = a' ∧ bits = b' ∧ n = n' := by
  intro k' a' b' n'
  unfold fN; simp [Fnd.mk.injEq]
 unfold showF
 simp only [List.mem_append, List.mem_map, List.mem_cons, List.not_mem_nil, or_false, inj]
 constructor
 ·
  rintro (((((h | h) | ⟨m, hm, h⟩) | ⟨y, hy, h⟩) | ⟨m, hm, h⟩) | ⟨m, hm, h⟩)
  · exact .inl h
  · exact .inr (.inl h)
  · obtain ⟨h1, h2, h3, h4⟩ := (inj _ _ _ _).1 h.symm; subst h4; exact .inr (.inr (.inl ⟨h1, h2, h3, hm⟩))
  · obtain ⟨h1, h2, h3, h4⟩ := (inj _ _ _ _).1 h.symm; exact .inr (.inr (.inr (.inl ⟨h1, y, hy, h2.symm, h3.symm, h4.symm⟩)))
  · obtain ⟨h1, h2, h3, h4⟩ := (inj _ _ _ _).1 h.symm; subst h4; exact .inr (.inr (.inr (.inr (.inl ⟨h1, h2, h3, hm⟩))))
  · obtain ⟨h1, h2, h3, h4⟩ := (inj _ _ _ _).1 h.symm; subst h2; exact .inr (.inr (.inr (.inr (.inr ⟨h1, h3, h4, hm⟩))))
 ·
  rintro (h | h | ⟨h1, h2, h3, h4⟩ | ⟨h1, y, hy, h2, h3, h4⟩ | ⟨h1, h2, h3, h4⟩ | ⟨h1, h2, h3, h4⟩)
  · exact .inl (.inl (.inl (.inl (.inl h))))
  · exact .inl (.inl (.inl (.inl (.inr h))))
  · exact .inl (.inl (.inl (.inr ⟨n, h4, ((inj _ _ _ _).2 ⟨h1, h2, h3, rfl⟩).symm⟩)))
  · exact .inl (.inl (.inr ⟨y, hy, ((inj _ _ _ _).2 ⟨h1, h2.symm, h3.symm, h4.symm⟩).symm⟩))
  · exact .inl (.inr ⟨n, h4, ((inj _ _ _ _).2 ⟨h1, h2, h3, rfl⟩).symm⟩)
  · exact .inr ⟨alg, h4, ((inj _ _ _ _).2 ⟨h1, rfl, h2, h3⟩).symm⟩
theorem show_eq {a : Fnd} {e x : Ept} (h : normL (showF a e) = normL (showF a x)) : ShowEq e x := by
 have hm : ∀ k alg bits n, fN a k alg bits n ∈ showF a e ↔ fN a k alg bits n ∈ showF a x := fun k alg bits n => by rw [← mem_normL, h, mem_normL]
 simp only [mem_show] at hm
 refine ⟨?_, ?_, fun n => ?_, fun p q k => ?_, fun n => ?_, fun n => ?_⟩
 · have := hm 5 0 0 e.least; simp at this; exact this
 · have := hm 4 0 0 e.most; simp at this; exact this
 · have := hm 2 0 0 n; simpa using this
 · have := hm 3 p q k; simpa using this
 · have := hm 6 0 0 n; simpa using this
 · have := hm 1 n 0 0; simpa using this
theorem has_mem {l : List Int} {n : Int} (ha : AscI l) (h : hasX l n = false) : n ∉ l := by
 intro hm
 have h1 := idx_has (n := n) ha
 rw [h, if_neg (by decide)] at h1
 have h2 := idx_any (fun y => n == y) l
 rw [h1] at h2
 have h3 : (l.any fun y => n == y) = true := List.any_eq_true.2 ⟨n, hm, by simp⟩
 rw [h3] at h2; exact absurd h2 (by decide)


/-- A change that adds something shows something more. -/
theorem grows {e x : Ept} {c b : Chg} (ha : AscI e.anchors) (hb : AscI e.hashes) (hk : c.kind = 1 ∨ c.kind = 5 ∨ c.kind = 7 ∨ c.kind = 9) (hs : stepR e c = .ok (x, b)) : ¬ ShowEq e x := by
 intro hq
 rcases hk with hk | hk | hk | hk
 ·
  have h1 := stepR_1 hk (e := e)
  rw [h1] at hs
  split at hs
  · cases hs
  ·
   split at hs
   · cases hs
   next h2 =>
    injection hs with hs; injection hs with h3 h4
    have : c.number ∈ e.suites := (hq.suites _).2 (by rw [← h3]; simp)
    exact h2 (List.any_eq_true.2 ⟨_, this, by simp⟩)
 ·
  have h1 := stepR_5 hk (e := e)
  rw [h1] at hs
  split at hs
  · cases hs
  ·
   split at hs
   · cases hs
   next h2 =>
    injection hs with hs; injection hs with h3 h4
    obtain ⟨y, hy, _, _, hy3⟩ := (hq.ids c.idn.alg c.idn.bits c.idn.keyId).2 ⟨c.idn, by rw [← h3]; simp, rfl, rfl, rfl⟩
    have h5 := idx_any (fun y => y.keyId == c.idn.keyId) e.ids
    have h6 : (e.ids.any fun y => y.keyId == c.idn.keyId) = true := List.any_eq_true.2 ⟨y, hy, by simp [hy3]⟩
    rw [h6] at h5
    exact h2 (of_decide_eq_true h5)
 ·
  have h1 := stepR_7 hk (e := e)
  rw [h1] at hs
  split at hs
  · cases hs
  next h2 =>
   injection hs with hs; injection hs with h3 h4
   exact has_mem ha (by simpa using h2) ((hq.anchors _).2 (by rw [← h3]; simp))
 ·
  have h1 := stepR_9 hk (e := e)
  rw [h1] at hs
  split at hs
  · cases hs
  next h2 =>
   injection hs with hs; injection hs with h3 h4
   exact has_mem hb (by simpa using h2) ((hq.hashes _).2 (by rw [← h3]; simp))
theorem ShowEq.symm {e x : Ept} (h : ShowEq e x) : ShowEq x e := ⟨h.least.symm, h.most.symm, fun n => (h.suites n).symm, fun a b k => (h.ids a b k).symm, fun n => (h.anchors n).symm, fun n => (h.hashes n).symm⟩
/-- Just a change of the order or of the fallback is not seen. -/
theorem quiet_iff {e x : Ept} {c b : Chg} {a : Fnd} (h : doneR e c = (x, b, 0)) : decide (normL (showF a e) = normL (showF a x)) = decide (c.kind = 12 ∨ c.kind = 11) := by
 obtain ⟨h1, h2, h3, h4⟩ := doneR_inv h
 obtain ⟨h5, h6, h7, h8⟩ := doneR_inv (done_back h).1
 rw [decide_eq_decide]
 have up : c.kind = 1 ∨ c.kind = 5 ∨ c.kind = 7 ∨ c.kind = 9 → ¬ normL (showF a e) = normL (showF a x) := fun hk hq => grows (ascI_of h1.anc) (ascI_of h1.hash) hk h3 (show_eq hq)
 have dn : b.kind = 1 ∨ b.kind = 5 ∨ b.kind = 7 ∨ b.kind = 9 → ¬ normL (showF a e) = normL (showF a x) := fun hk hq => grows (ascI_of h5.anc) (ascI_of h5.hash) hk h7 (show_eq hq).symm
 rcases kinds12 h2.1 with hk | hk | hk | hk | hk | hk | hk | hk | hk | hk | hk | hk
 · exact ⟨fun hq => absurd hq (up (by omega)), fun h => by omega⟩
 · obtain ⟨_, _, rfl⟩ := ok_2 hk h3; exact ⟨fun hq => absurd hq (dn (.inl rfl)), fun h => by omega⟩
 ·
  rw [stepR_3 hk] at h3
  split at h3
  · cases h3
  next hn => injection h3 with h3; injection h3 with g1 g2; exact ⟨fun hq => absurd (show_eq hq).most (by rw [← g1]; exact hn), fun h => by omega⟩
 ·
  rw [stepR_4 hk] at h3
  split at h3
  · cases h3
  next hn => injection h3 with h3; injection h3 with g1 g2; exact ⟨fun hq => absurd (show_eq hq).least (by rw [← g1]; exact hn), fun h => by omega⟩
 · exact ⟨fun hq => absurd hq (up (by omega)), fun h => by omega⟩
 · obtain ⟨_, _, _, _, rfl⟩ := ok_6 hk h3; exact ⟨fun hq => absurd hq (dn (.inr (.inl rfl))), fun h => by omega⟩
 · exact ⟨fun hq => absurd hq (up (by omega)), fun h => by omega⟩
 · obtain ⟨_, _, rfl⟩ := ok_8 hk h3; exact ⟨fun hq => absurd hq (dn (.inr (.inr (.inl rfl)))), fun h => by omega⟩
 · exact ⟨fun hq => absurd hq (up (by omega)), fun h => by omega⟩
 · obtain ⟨_, _, rfl⟩ := ok_10 hk h3; exact ⟨fun hq => absurd hq (dn (.inr (.inr (.inr rfl)))), fun h => by omega⟩
 · obtain ⟨rfl, _⟩ := ok_11 hk h3; exact ⟨fun _ => .inr hk, fun _ => rfl⟩
 · obtain ⟨rfl, _⟩ := ok_12 hk h3; exact ⟨fun _ => .inl hk, fun _ => rfl⟩

theorem w_HDrift {h : Hst} {c : Chg} (hs : h.small) (hf : h.ep.fits) (hi : c.idn.fits ∧ c.idn.small) : Fun prog 55 [agg (rowH h), agg (rowChg c)] (tup [agg (rowH (driftH h c).1), int (driftH h c).2]) := by
 refine fo func55 rfl ⟨rfl, rfl⟩ fun M0 w0 => (Tr.seq (Tr.regT (tp rfl (ok_box rfl (Va rfl)) (tp rfl (ok_box rfl (Va rfl)) ?_))))
 refine Tl rfl rfl rfl rfl z82 zo82 (fun b1 => ?_)
 refine ao ?_
 refine ao ?_
 refine tp rfl (kc1 (w_HCopy hs) rfl rfl) ?_
 refine Tl rfl rfl rfl rfl z82 zo82 (fun b2 => ?_)
 refine TO.store_all 0 rfl rfl rfl (vl rfl) (Va rfl) rfl sz82 rfl rfl ?_
 refine ao ?_
 refine ao ?_
 refine tp rfl (kc2 (w_Apply24 (e := h.ep) hf hs.ep hi.1 hi.2) rfl rfl rfl) ?_
 refine ao ?_
 refine Tl rfl rfl rfl rfl z32 zo32 (fun b3 => ?_)
 refine sf 0 7 ⟨rfl, rfl, rfl⟩ rfl rfl rfl rfl ?_
 refine ao ?_
 refine wk4 4 6 7 8 rfl ?_
 refine an ?_ ?_ <;> intro h1 q1
 have hA : driftH h c = (⟨(doneR h.ep c).1, h.bef⟩, 0) := if_pos (by have := q1; omega)
 refine ao ?_
 refine TO.ef0 0 rfl rfl (ef_store rfl rfl (vl rfl) (Va rfl) sz32 rfl (by exact Nb rfl) rfl) ?_
 refine ao ?_
 refine ao ?_
 refine TO.store_all 1 rfl rfl rfl (vl rfl) (Va rfl) rfl sz82 rfl rfl ?_
 refine ao ?_
 refine Tr.drop 0 (Tr.ret (Fin.retX2 rfl (RVal.cell 0 rfl rfl agg82 sz82 rfl (Lr)) (RVal.tmp rfl (Lr)) ?_))
 refine tup_le ⟨?_, ?_, trivial⟩
 · rw [hA]; exact Lr
 · refine int_eq ?_; rw [hA]; omega
 have hA : driftH h c = (h, (doneR h.ep c).2.2) := if_neg (by have := q1; omega)
 refine ac ?_
 refine ao ?_
 refine TO.store_all 1 rfl rfl rfl (vl rfl) (Va rfl) rfl sz82 rfl rfl ?_
 refine ao ?_
 refine Tr.drop 0 (Tr.ret (Fin.retX2 rfl (RVal.cell 0 rfl rfl agg82 sz82 rfl (Lr)) (RVal.tmp rfl (Lr)) ?_))
 refine tup_le ⟨?_, ?_, trivial⟩
 · rw [hA]; exact Lr
 · exact int_eq (by rw [hA])
theorem w_HProbe {h : Hst} {a : Fnd} (ha : a.fits) (hf : h.ep.fits) : Fun prog 61 [agg (rowH h), agg (rowF a)] (tup [fnds (frE a h.ep).1, int (frE a h.ep).2]) := by
 refine fo func61 rfl ⟨rfl, rfl⟩ fun M0 w0 => ?_
 refine a2 ?_
 refine co rfl (kc2 (w_FromE (a := a) (e := h.ep) ha hf) rfl rfl rfl) ?_
 refine ac ?_
 refine Tr.ret (Fin.ret2 rfl (OutW.bse _ _) rfl ?_ rfl ?_)
 · exact Lr
 · exact Lr
theorem w_mvAt {nm : List UInt8} {d : Int}  : Fun prog 62 [str nm, int d] (agg (rowF (atF nm d))) := by
 refine Fun.of func62 rfl rfl (by exact Nb rfl) fun M0 w0 => ?_
 refine Tr.seq (Tr.regT ?_)
 refine Tl rfl rfl rfl rfl z96 zo96 (fun b1 => ?_)
 refine TO.nil (Fin.go (Tr.seq (Tr.regT (tm rfl (tm rfl (tp rfl (ok_build (qs := [int 3, str nm, int 1, int d, int 90, int 4, str tls, is (.int .i64 0), is (.int .i64 0), int 1, is (.string (ByteArray.mk #[]))]) (rows := [(0, [_]), (1, [_]), (2, [_]), (3, [_]), (4, [_]), (6, [_]), (5, [_]), (8, [_])]) rfl bl96 zo96 ⟨⟨rfl, (Vo rfl)⟩, ⟨⟨rfl, (Vo rfl)⟩, ⟨⟨rfl, (Vo rfl)⟩, ⟨⟨rfl, (Vo rfl)⟩, ⟨⟨rfl, (Vo rfl)⟩, ⟨⟨rfl, (Vo rfl)⟩, ⟨⟨rfl, (Vo rfl)⟩, ⟨⟨rfl, (Vo rfl)⟩, trivial⟩⟩⟩⟩⟩⟩⟩⟩ (by kernel_rfl)) (TO.store_all 0 rfl rfl rfl (vl rfl) (Va rfl) rfl sz96 rfl rfl (TO.nil (Fin.go (Tr.ret (Fin.retX1 rfl (RVal.cell 0 rfl rfl agg96 sz96 rfl (Lr)) ?_)))))))))))
 · exact Lr
theorem w_L36same {a b : List Fnd}  : Fun prog 64 [fnds a, fnds b] (bool (decide (a = b))) := by
 refine fo func64 rfl ⟨rfl, rfl⟩ fun M0 w0 => (Tr.lenm 0 rfl fun hlm_0 => (Tr.lenm 1 rfl fun hlm_1 => ?_))
 refine ac ?_
 refine an ?_ ?_ <;> intro h1 q1
 have hne : ¬ a.length = b.length := by simp_all; omega
 refine a2 ?_
 · refine bool_eq ?_; symm; rw [decide_eq_false_iff_not]; rintro rfl; exact hne rfl
 have hll : a.length = b.length := by simp_all; omega
 refine a2 ?_
 refine Tr.block (Tr.loopw [(0, _), (1, _), (12, _)] (kk3 rfl) (fun k : Nat => [(13, int ((k : Nat) : Int))]) (fun k : Nat => k ≤ (a).length ∧ (a.take k = b.take k)) (fun k : Nat => (a).length - k) 0 (⟨Nat.zero_le _, rfl⟩) ⟨ke rfl, trivial⟩ ?_)
 rintro k ⟨hle_k, hinv_k⟩
 refine ac ?_
 refine Tr.seq ?_
 refine Tr.cn rfl ?_ ?_ <;> intro h2 q2
 have hk_k : k < (a).length := lt_of_dec h2
 obtain ⟨x, hx_k⟩ := at_ hk_k
 obtain ⟨y, hy⟩ := at_ (l := b) (k := k) (by omega)
 · repeat' first | (refine bool_eq ?_; symm; rw [decide_eq_false_iff_not]; refine sameN hx_k hy ?_; rintro rfl; simp_all) | (exact Fin.fam_same (k + 1) ⟨⟨hk_k, sameY hx_k hy hinv_k (by cases x; cases y; simp_all)⟩, by omega⟩ ⟨⟨_, rfl, int_succ k⟩, ke rfl, ke rfl, ke rfl, trivial⟩) | refine co rfl (ok_indexAddr rfl underlying92 sz96 (vl rfl) (vl rfl) (by omega) (row_at hx_k)) ?_ | refine co rfl (ok_indexAddr rfl underlying92 sz96 (vl rfl) (vl rfl) (by omega) (row_at hy)) (co rfl (ok_loadA rfl agg96 sz96 (vl rfl) rfl rfl) (co rfl (ok_ne96 rfl (vl rfl) (vl rfl)) ?_)) | refine ac ?_ | (refine Tr.cn rfl ?_ ?_ <;> intro h q)
 have he_k : k = (a).length := by have := ge_of_dec h2; omega
 subst he_k
 refine a3 ?_
 · refine bool_eq ?_; symm; rw [decide_eq_true_eq]; exact sameA hll hinv_k
end Go.Proofs.YtppeeogffbpcbaaGreat
namespace Go.Proofs.YtppeeogffbpcbaaGreat
open Go Go.RowKit Cp Go.ChangeShapes Go.WideShapes Go.ChangeAt Go.Proofs.Tryz
theorem take_oneL {l : List Ept} {e : Ept} (h : l[0]? = some e) : slice 9 ((l.map rowEp).take 1) = slice 9 ([e].map rowEp) := by
 cases l with
 | nil => simp at h
 | cons a l => simp at h; subst h; rfl
theorem ck24_of {e : Ept} {c : Chg} {e2 : Ept} {b : Chg} {f : Int} {n : Nat} (h : doneR e c = (e2, b, f)) (hz : e.sz n) (hn : n ≤ 900000) (hi : c.idn.fits ∧ c.idn.small) : Fun Tryz.prog 46 [agg (rowEp e), agg (rowChg c)] (int f) := by
 have := w_R24Check (e := e) (c := c) hz hn hi; rw [h] at this; exact this
theorem drift_of {e : Ept} {c : Chg} {x : Ept} {b : Chg} {f : Int} (h : doneR e c = (x, b, f)) (he : e.small) (hf : e.fits) (hi : c.idn.fits ∧ c.idn.small) : Fun Tryz.prog 55 [agg (rowH ⟨e, []⟩), agg (rowChg c)] (tup [agg (rowH ⟨if f = 0 then x else e, []⟩), int f]) := by
 have h1 := w_HDrift (h := ⟨e, []⟩) (c := c) ⟨he, by show 0 ≤ _; omega, fun y hy => by cases hy⟩ hf hi
 have h2 : driftH ⟨e, []⟩ c = (⟨if f = 0 then x else e, []⟩, f) := by
  unfold driftH
  rw [show (⟨e, []⟩ : Hst).ep = e from rfl, h]
  by_cases h0 : f = 0
  · rw [if_pos h0, if_pos h0, h0]
  · rw [if_neg h0, if_neg h0]
 rw [h2] at h1; exact h1
theorem probe_of {e : Ept} {nm : List UInt8} {d : Int} (hn : named nm = true) (hl : nm.length ≤ maxLen) (hd : 0 ≤ d ∧ d ≤ 40000) (hf : e.fits) (he : eptB e = true) : Fun Tryz.prog 61 [agg (rowH ⟨e, []⟩), agg (rowF (atF nm d))] (tup [fnds (normL (showF (atF nm d) e)), int 0]) := by
 have h1 := w_HProbe (h := ⟨e, []⟩) (a := atF nm d) (atF_fits hl) hf
 rw [show (⟨e, []⟩ : Hst).ep = e from rfl, frE_ok hn hd he] at h1; exact h1
theorem try_one {e x : Ept} (he : e.small) (hx : x.small) (hf : x.fits) (hc : eptB x = true) (hn : x.name = e.name) : Fun Tryz.prog 57 [agg (rowH ⟨e, []⟩), agg (rowEp x), int 0] (tup [agg (rowH ⟨x, [e]⟩), bool true, int 0]) := by
 have h := w_HTry (h := ⟨e, []⟩) (to_ := x) (k := 0) ⟨he, by show 0 ≤ _; omega, fun y hy => by cases hy⟩ (by show 0 ≤ _; omega) hf hx
 have ht : tryH ⟨e, []⟩ x 0 = (⟨x, [e]⟩, true, 0) := by unfold tryH; rw [if_neg (by simp [hc]), if_neg (by simp [hn]), if_neg (by omega), if_pos (.inl rfl)]; rfl
 rw [ht] at h; exact h
theorem back_one {e x : Ept} (he : e.small) (hx : x.small) : Fun Tryz.prog 53 [agg (rowH ⟨x, [e]⟩)] (tup [agg (rowH ⟨e, []⟩), int 0]) :=
 w_HBack (h := ⟨x, [e]⟩) ⟨hx, by show 1 ≤ _; omega, fun y hy => by simp at hy; subst hy; exact he⟩
theorem named_nm : ∀ n ∈ nameL, named n = true := by decide +kernel
theorem fall_ok {e : Ept} (h : eptB e = true) : eptB { e with fall := !e.fall } = true := h
theorem doneN {e x : Ept} {c b : Chg} (h : doneR e c = (x, b, 0)) : x.name = e.name := by
 obtain ⟨_, h2, h3, _⟩ := doneR_inv h
 rcases kinds12 h2.1 with hk | hk | hk | hk | hk | hk | hk | hk | hk | hk | hk | hk
 · rw [stepR_1 hk] at h3; (repeat' (split at h3)) <;> first | (cases h3; done) | (injection h3 with h3; obtain ⟨rfl, rfl⟩ := Prod.mk.inj h3; rfl)
 · rw [stepR_2 hk] at h3; (repeat' (split at h3)) <;> first | (cases h3; done) | (injection h3 with h3; obtain ⟨rfl, rfl⟩ := Prod.mk.inj h3; rfl)
 · rw [stepR_3 hk] at h3; (repeat' (split at h3)) <;> first | (cases h3; done) | (injection h3 with h3; obtain ⟨rfl, rfl⟩ := Prod.mk.inj h3; rfl)
 · rw [stepR_4 hk] at h3; (repeat' (split at h3)) <;> first | (cases h3; done) | (injection h3 with h3; obtain ⟨rfl, rfl⟩ := Prod.mk.inj h3; rfl)
 · rw [stepR_5 hk] at h3; (repeat' (split at h3)) <;> first | (cases h3; done) | (injection h3 with h3; obtain ⟨rfl, rfl⟩ := Prod.mk.inj h3; rfl)
 · rw [stepR_6 hk] at h3; (repeat' (split at h3)) <;> first | (cases h3; done) | (injection h3 with h3; obtain ⟨rfl, rfl⟩ := Prod.mk.inj h3; rfl)
 · rw [stepR_7 hk] at h3; (repeat' (split at h3)) <;> first | (cases h3; done) | (injection h3 with h3; obtain ⟨rfl, rfl⟩ := Prod.mk.inj h3; rfl)
 · rw [stepR_8 hk] at h3; (repeat' (split at h3)) <;> first | (cases h3; done) | (injection h3 with h3; obtain ⟨rfl, rfl⟩ := Prod.mk.inj h3; rfl)
 · rw [stepR_9 hk] at h3; (repeat' (split at h3)) <;> first | (cases h3; done) | (injection h3 with h3; obtain ⟨rfl, rfl⟩ := Prod.mk.inj h3; rfl)
 · rw [stepR_10 hk] at h3; (repeat' (split at h3)) <;> first | (cases h3; done) | (injection h3 with h3; obtain ⟨rfl, rfl⟩ := Prod.mk.inj h3; rfl)
 · rw [stepR_11 hk] at h3; (repeat' (split at h3)) <;> first | (cases h3; done) | (injection h3 with h3; obtain ⟨rfl, rfl⟩ := Prod.mk.inj h3; rfl)
 · rw [stepR_12 hk] at h3; (repeat' (split at h3)) <;> first | (cases h3; done) | (injection h3 with h3; obtain ⟨rfl, rfl⟩ := Prod.mk.inj h3; rfl)

theorem w_HostDrifts {t : List Int}  : Fun prog 9 [ints t] (bool true) := by
 refine Fun.of func9 rfl rfl (by exact Nb rfl) fun M0 w0 => ?_
 refine Tr.seq (Tr.reg0 (cm rfl (Ch.nil (Fin.go (Tr.seq (Tr.seq (Tr.reg0 (cm rfl (co rfl (ok_call rfl (w_Light) ⟨ke rfl, trivial⟩) (co rfl (ok_not rfl (vl rfl)) (Ch.nil (Fin.go ?_))))))))))))
 refine Tr.cn rfl ?_ ?_ <;> intro h1 q1
 refine Tr.seq (Tr.reg0 (co rfl (ok_call rfl (w_awake36) trivial) (cm rfl (Ch.nil (Fin.go (Tr.ret (Fin.then_ret (Fin.ret1 rfl (OutW.bse _ _) rfl ?_))))))))
 · exact Lr
 have ht4 : t.length ≤ 400 := by simpa using h1
 have ht9 : t.length ≤ 1000000000 := by omega
 refine Tr.skip (Fin.go (Tr.seq (Tr.regT (tm rfl (TO.pad ?_)))))
 refine TO.efs 0 rfl rfl (by decide) (ef_call rfl rfl (by decide) rfl (w_Roll (l := t) ht9) ⟨ke rfl, trivial⟩) (fun v1 => ?_)
 refine TO.opn 27 0 _ rfl rfl (fun _ => rfl) (fun b1 => ?_)
 refine tm rfl (TO.nil (Fin.go (Tr.seq (Tr.regT (tm rfl (TO.efc 0 rfl rfl (by decide) (ef_callc rfl rfl (by decide) rfl (w_Sound) ⟨ke rfl, trivial⟩) ?_))))))
 refine TO.ex 29 rfl (fun z1 => TO.fact 29 rfl fun hz1 => ?_)
 obtain ⟨e, he0⟩ := at_ (l := z1) (k := 0) (by omega)
 have hse : SndE 0 e := hz1.2 0 e he0
 have he := (sndE_sz hse).le (m := 2000) (by omega)
 have hce := eptB_iff.2 (sndE_ok hse)
 have hsm := he.small (by omega)
 have hnm := named_nm _ (List.mem_of_getElem? hse.name)
 have hnl := he.name
 refine Tl rfl rfl rfl rfl z41 zo41 (fun b2 => ?_)
 refine TO.store_all 0 rfl rfl rfl (vl rfl) (Va rfl) rfl sz41 rfl rfl (TO.freeze 0 4 rfl rfl (TO.nil (Fin.openD 0 rfl (fun s1 => ?_))))
 refine Fin.go (Tr.seq (Tr.regT (tp rfl (kfa rfl fo41_0 rfl rfl) (tp rfl (kl1 rfl one37 rfl) (tp rfl (ok_indexAddr rfl underlying37 sz32 (vl rfl) (vl rfl) (by omega) (row_atI (f := rowEp) (i := 0) he0)) (tp rfl (ok_loadA rfl agg32 sz32 (vl rfl) rfl rfl) ?_))))))
 refine Tl rfl rfl rfl rfl z32 zo32 (fun b3 => ?_)
 refine TO.store_all 0 rfl rfl rfl (vl rfl) (Va rfl) rfl sz32 rfl rfl (TO.freeze 0 5 rfl rfl (TO.nil (Fin.go (wk3 3 4 5 rfl (Tr.seq (Tr.regT (tp rfl (ok_loadA rfl agg32 sz32 (vl rfl) rfl rfl) (tp rfl (ok_call rfl (w_HNewY he.fits hsm hce) ⟨ke rfl, trivial⟩) (tm rfl (tp rfl (ok_extract rfl (vl rfl) rfl) (tp rfl (ok_extract rfl (vl rfl) rfl) ?_)))))))))))
 refine Tl rfl rfl rfl rfl z82 zo82 (fun b4 => ?_)
 refine TO.store_all 0 rfl rfl rfl (vl rfl) (Va rfl) rfl sz82 rfl rfl (TO.freeze 0 6 rfl rfl (tm rfl (TO.nil (Fin.go (Tr.seq (Tr.regT (tm rfl (tp rfl (kfa rfl fo41_0 rfl rfl) (tp rfl (kl1 rfl one37 rfl) ?_)))))))))
 refine tp rfl (ok_sliceTo rfl underlying37 sz32 (vl rfl) (vl rfl) (by omega) (by simp; omega)) ?_
 refine tp rfl (ok_build (rows := [(0, [_])]) rfl bl41 zo41 ⟨⟨rfl, (Vo rfl)⟩, trivial⟩ rfl) ?_
 refine TO.efc 0 rfl rfl (by decide) (ef_callc rfl rfl (by decide) rfl (w_Any (es := [e]) (fun i y hy => by cases i with | zero => simp at hy; subst hy; exact hse | succ i => simp at hy) ⟨by simp, by simp⟩) ⟨ke rfl, ⟨_, rfl, agg_le ⟨Pr.le_of_eq (take_oneL he0), Lr, Lr, trivial⟩⟩, trivial⟩) ?_
 refine TO.ex 44 rfl (fun z2 => TO.fact 44 rfl fun hz2 => ?_)
 have hci : z2.idn.fits ∧ z2.idn.small := ⟨hz2.fits, hz2.small⟩
 obtain ⟨x, b_, f, hr⟩ : ∃ x b f, doneR e z2 = (x, b, f) := ⟨_, _, _, rfl⟩
 refine Tl rfl rfl rfl rfl z29 zo29 (fun b5 => ?_)
 refine TO.store_all 0 rfl rfl rfl (vl rfl) (Va rfl) rfl sz29 rfl rfl (TO.freeze 0 8 rfl rfl (TO.nil (Fin.openD 0 rfl (fun s2 => ?_))))
 refine Fin.go (wk4 5 6 7 8 rfl (Tr.seq (Tr.regT (tp rfl (ok_loadA rfl agg82 sz82 (vl rfl) rfl rfl) (tp rfl (ok_loadA rfl agg29 sz29 (vl rfl) rfl rfl) (tp rfl (ok_call rfl (drift_of hr hsm he.fits hci) ⟨ke rfl, ke rfl, trivial⟩) (tm rfl (tp rfl (ok_extract rfl (vl rfl) rfl) (tp rfl (ok_extract rfl (vl rfl) rfl) ?_)))))))))
 refine Tl rfl rfl rfl rfl z82 zo82 (fun b6 => ?_)
 refine TO.store_all 0 rfl rfl rfl (vl rfl) (Va rfl) rfl sz82 rfl rfl (TO.freeze 0 9 rfl rfl (tm rfl (TO.nil (Fin.go (wk6 5 6 7 8 9 10 rfl (Tr.seq (Tr.seq (Tr.reg0 (cm rfl (co rfl (ki rfl rfl rfl rfl) (Ch.nil (Fin.go ?_))))))))))))
 refine Tr.cn rfl ?_ ?_ <;> intro h2 q2
 have hf0 : f ≠ 0 := by have := q2; omega
 refine Tr.seq (Tr.reg0 (cm rfl (co rfl (ki rfl rfl rfl rfl) (cm rfl ?_))))
 refine Ch.cs 55 rfl ?_ ?_ <;> intro h3 q3
 refine cy h3 rfl (ok_loadA rfl agg82 sz82 (vl rfl) rfl rfl) (cy h3 rfl (ok_loadA rfl agg82 sz82 (vl rfl) rfl rfl) ?_)
 refine cy h3 rfl (ok_call rfl (w_HSame (a := ⟨if f = 0 then x else e, []⟩) (b := ⟨e, []⟩)) ⟨ke rfl, ke rfl, trivial⟩) ?_
 refine co rfl (kpt rfl rfl h3 rfl) (cm rfl ?_)
 refine Ch.cs 60 rfl ?_ ?_ <;> intro h4 q4
 refine cym h4 rfl (cy h4 rfl (ok_loadA rfl agg32 sz32 (vl rfl) rfl rfl) (cy h4 rfl (ok_loadA rfl agg29 sz29 (vl rfl) rfl rfl) (cy h4 rfl (ok_call rfl (ck24_of hr he (by omega) hci) ⟨ke rfl, ke rfl, trivial⟩) (cy h4 rfl (ki rfl rfl rfl rfl) (co rfl (kpt rfl rfl h4 rfl) (cm rfl ?_))))))
 refine Ch.cs 67 rfl ?_ ?_ <;> intro h5 q5
 refine cy h5 rfl (ok_call rfl (w_awake36) trivial) (co rfl (kpt rfl rfl h5 rfl) (cm rfl (Ch.nil (Fin.go (wk1 2 rfl (Tr.ret (Fin.then_ret (Fin.ret1 rfl (OutW.bse _ _) rfl ?_))))))))
 · exact Lr
 exfalso; simp at h5
 exfalso; simp [hf0] at h4
 exact absurd h3 (by decide)
 obtain rfl : f = 0 := by have := q2; omega
 obtain ⟨_, _, hne, hcx⟩ := done_twice hr
 have hxn := doneN hr
 have hxz := sz_done hr (sndE_sz hse) hci
 replace hxz := hxz.1.le (m := 2000) (by omega)
 have hxs := hxz.small (by omega)
 have hos : Ept.small ({ e with fall := !e.fall } : Ept) := ⟨hsm.suites, hsm.anchors, hsm.hashes, hsm.idl, hsm.ids⟩
 have hof : Ept.fits ({ e with fall := !e.fall } : Ept) := ⟨he.name, he.fits.ids⟩
 have hq := quiet_iff (a := atF e.name 5) hr
 refine Tr.skip (Fin.go (Tr.seq (Tr.reg1 mixed (by kernel_rfl) (co rfl (ok_loadA rfl agg82 sz82 (vl rfl) rfl rfl) (co rfl (kfa rfl fo32_0 rfl rfl) (co rfl (kl1 rfl one9 rfl) (co rfl (ok_call rfl (w_mvAt) ⟨ke rfl, ke rfl, trivial⟩) (co rfl (ok_call rfl (probe_of hnm hnl (by omega) he.fits hce) ⟨ke rfl, ke rfl, trivial⟩) (cm rfl (co rfl (ok_extract rfl (vl rfl) rfl) (co rfl (ok_extract rfl (vl rfl) rfl) (cm rfl (cm rfl ?_)))))))))))))
 refine Ch.nil (Fin.go (wk6 5 7 8 9 11 12 rfl (Tr.seq (Tr.reg1 mixed (by kernel_rfl) (co rfl (ok_loadA rfl agg82 sz82 (vl rfl) rfl rfl) (co rfl (kfa rfl fo32_0 rfl rfl) (co rfl (kl1 rfl one9 rfl) (co rfl (ok_call rfl (w_mvAt) ⟨ke rfl, ke rfl, trivial⟩) (co rfl (ok_call rfl (probe_of hnm hnl (by omega) hxz.fits hcx) ⟨ke rfl, ke rfl, trivial⟩) (cm rfl (co rfl (ok_extract rfl (vl rfl) rfl) (co rfl (ok_extract rfl (vl rfl) rfl) (cm rfl ?_)))))))))))))
 refine cm rfl (Ch.nil (Fin.go (wk8 5 7 8 9 11 12 13 14 rfl (wk8 5 7 8 9 11 12 13 14 rfl (Tr.cutk [5, 7, 9, 11, 12, 13, 14] [(15, bool (decide (z2.kind = 12 ∨ z2.kind = 11)))] (True) ?_ (fun h6 => ?_))))))
 refine Tr.reg0 (co rfl (kfa rfl fo29_1 rfl rfl) (co rfl (kl1 rfl one3 rfl) (co rfl (ki rfl rfl rfl rfl) (cm rfl ?_))))
 refine Ch.cs 89 rfl ?_ ?_ <;> intro h7 q7
 refine cnf h7 rfl (cnf h7 rfl (cnf h7 rfl (co rfl (kpt rfl rfl h7 rfl) (cm rfl (Ch.nil (Fin.fam_same () trivial ⟨⟨_, rfl, bool_eq (by simp_all [Bool.beq_eq_decide_eq])⟩, ke rfl, ke rfl, ke rfl, ke rfl, ke rfl, ke rfl, ke rfl, trivial⟩))))))
 refine cy h7 rfl (kfa rfl fo29_1 rfl rfl) (cy h7 rfl (kl1 rfl one3 rfl) (cy h7 rfl (ki rfl rfl rfl rfl) (co rfl (kpf rfl rfl h7 rfl) (cm rfl (Ch.nil (Fin.fam_same () trivial ⟨⟨_, rfl, bool_eq (by simp_all [Bool.beq_eq_decide_eq])⟩, ke rfl, ke rfl, ke rfl, ke rfl, ke rfl, ke rfl, ke rfl, trivial⟩))))))
 refine Tr.seq (Tr.regT (tp rfl (ok_loadA rfl agg32 sz32 (vl rfl) rfl rfl) ?_))
 refine Tl rfl rfl rfl rfl z32 zo32 (fun b7 => ?_)
 refine TO.store_all 0 rfl rfl rfl (vl rfl) (Va rfl) rfl sz32 rfl rfl (TO.nil (Fin.go (Tr.seq (Tr.regT (tp rfl (kfa rfl fo32_8 rfl rfl) (tp rfl (kl1 rfl one4 rfl) (tp rfl (ok_not rfl (vl rfl)) (tp rfl (okp_fieldAddr rfl fo32_8 (vl rfl)) (TO.ef0 0 rfl rfl (ef_store rfl rfl (vl rfl) (Vo rfl) sz4 rfl (by exact Nb rfl) rfl) (TO.nil (Fin.go (wk8 7 9 11 12 13 14 15 16 rfl (Tr.seq (Tr.regT ?_))))))))))))))
 refine tp rfl (ok_loadA rfl agg82 sz82 (vl rfl) rfl rfl) (TO.rd 0 rfl rfl rfl (by decide) (rd_loadA rfl agg32 sz32 (vl rfl) rfl rfl) ?_)
 refine tp rfl (ok_call rfl (try_one (e := x) (x := ({ e with fall := !e.fall } : Ept)) hxs hos hof (fall_ok hce) hxn.symm) ⟨ke rfl, ke rfl, ke rfl, trivial⟩) ?_
 refine tm rfl (tp rfl (ok_extract rfl (vl rfl) rfl) (tp rfl (ok_extract rfl (vl rfl) rfl) (tp rfl (ok_extract rfl (vl rfl) rfl) ?_)))
 refine Tl rfl rfl rfl rfl z82 zo82 (fun b8 => ?_)
 refine TO.store_all 0 rfl rfl rfl (vl rfl) (Va rfl) rfl sz82 rfl rfl (TO.freeze 0 17 rfl rfl (tm rfl (tm rfl (TO.nil (Fin.go (wk10 7 9 11 12 13 14 15 16 17 19 rfl (Tr.seq (Tr.regT (tp rfl (ok_loadA rfl agg82 sz82 (vl rfl) rfl rfl) ?_)))))))))
 refine tp rfl (ok_call rfl (back_one (e := x) (x := ({ e with fall := !e.fall } : Ept)) hxs hos) ⟨ke rfl, trivial⟩) ?_
 refine tm rfl (tp rfl (ok_extract rfl (vl rfl) rfl) (tp rfl (ok_extract rfl (vl rfl) rfl) ?_))
 refine Tl rfl rfl rfl rfl z82 zo82 (fun b9 => ?_)
 refine TO.store_all 0 rfl rfl rfl (vl rfl) (Va rfl) rfl sz82 rfl rfl (TO.freeze 0 20 rfl rfl (tm rfl (TO.nil (Fin.go (wk12 7 9 11 12 13 14 15 16 17 19 20 21 rfl (Tr.seq (Tr.reg0 (cm rfl (cm rfl (cad rfl rfl rfl rfl (by omega) (cm rfl (cad rfl rfl rfl rfl (by omega) (cm rfl ?_)))))))))))))
 refine cad rfl rfl rfl rfl (by omega) (cm rfl (cad rfl rfl rfl rfl (by omega) (co rfl (ki rfl rfl rfl rfl) (cm rfl ?_))))
 refine Ch.cs 121 rfl ?_ ?_ <;> intro h8 q8
 refine cym h8 rfl (cym h8 rfl (cy h8 rfl (ok_call rfl (w_L36same) ⟨ke rfl, ke rfl, trivial⟩) (cym h8 rfl (cy h8 rfl (ok_eqb rfl underlying4 (vl rfl) (vl rfl)) (co rfl (kpt rfl rfl h8 rfl) (cm rfl ?_))))))
 refine Ch.cs 128 rfl ?_ ?_ <;> intro h9 q9
 refine cy h9 rfl (kfa rfl fo82_1 rfl rfl) (cy h9 rfl (kl1 rfl one37 rfl) (cy h9 rfl (ok_lenm rfl underlying37 (vl rfl)) (cy h9 rfl (ki rfl rfl rfl rfl) (co rfl (kpt rfl rfl h9 rfl) (cm rfl ?_)))))
 refine Ch.cs 134 rfl ?_ ?_ <;> intro h10 q10
 refine cy h10 rfl (ok_loadA rfl agg82 sz82 (vl rfl) rfl rfl) (cy h10 rfl (ok_loadA rfl agg82 sz82 (vl rfl) rfl rfl) ?_)
 refine cy h10 rfl (ok_call rfl (w_HSame (a := ⟨x, []⟩) (b := ⟨x, []⟩)) ⟨ke rfl, ke rfl, trivial⟩) ?_
 refine co rfl (kpt rfl rfl h10 rfl) (cm rfl ?_)
 refine Ch.cs 139 rfl ?_ ?_ <;> intro h11 q11
 refine cy h11 rfl (kfa rfl fo82_0 rfl rfl) (cy h11 rfl (ok_loadA rfl agg32 sz32 (vl rfl) rfl rfl) (cy h11 rfl (ok_rd 0 rfl (rd_loadA rfl agg32 sz32 (vl rfl) rfl rfl)) ?_))
 refine cy h11 rfl (ok_call rfl (w_R9Same (a := ({ e with fall := !e.fall } : Ept)) (b := ({ e with fall := !e.fall } : Ept))) ⟨ke rfl, ke rfl, trivial⟩) ?_
 refine co rfl (kpt rfl rfl h11 rfl) (cm rfl ?_)
 refine Ch.cs 145 rfl ?_ ?_ <;> intro h12 q12
 refine cy h12 rfl (ok_call rfl (w_awake36) trivial) (co rfl (kpt rfl rfl h12 rfl) (cm rfl (Ch.nil (Fin.go (Tr.drop 0 (wk1 2 rfl (Tr.ret (Fin.ret1 rfl (OutW.bse _ _) rfl ?_))))))))
 · exact Lr
 exfalso; simp at h12
 exfalso; simp at h11
 exfalso; simp at h10
 exfalso; rw [hq] at h9; simp at h9
 exfalso; simp at h8
theorem hostDrifts_lifted (os : Os) (started : os.Started) (H : Type) (enc : TypeId × Value → H) :
  ReturnsInHanded {} Tryz.checked os 9 .any (Rows.hostDriftsSpec.pre6 enc Tryz.prog Tryz.f9 Rows.hostDriftsRow.domain false) (Rows.hostDriftsSpec.post enc Tryz.prog Tryz.f9 false true false false) := by
 refine returnsInHanded_of_change (C := Tryz.checked) own0 started (by kernel_rfl) Tryz.func9
  (ChangeSpec.witness6 (enc := enc) (C := Tryz.checked) false ⟨#[], #[.slice none 0 0], []⟩ 8 (by kernel_rfl) (by kernel_rfl) (by kernel_rfl) (by kernel_rfl)) ?_
 intro W base args ds gs before hval0 hW hcnd _
 have hval : ∀ (j : Nat) t v, Tryz.f9.params[j]? = some t → args[j]? = some v → Value.okWide Tryz.prog W .any base t v := hval0
 have hW' := hW
 obtain ⟨p, q, hA0, hV, hpq, hfz, hnd⟩ := hW
 have hA : DataW.TrodAll enc Tryz.prog W 0 (fun _ => true) true Tryz.f9.params.toList args.toList ds p := hA0
 have hA' := hA
 rw [Tryz.params9] at hA hval
 obtain ⟨v0, d0, rfl, rfl, h0⟩ := trodAll_one hA
 obtain ⟨rfl, rfl⟩ := trodVars_none hV
 obtain ⟨a0, hr0, e0⟩ := arg_one (opens_ints Tryz.underlying22 Tryz.underlying3 (by kernel_rfl)) h0 (by obtain ⟨_, _, _, rfl⟩ := okWide_slice Tryz.underlying22 (hval 0 22 v0 rfl rfl); rfl)
 refine ((w_HostDrifts).2 noM W [v0] (noM_bd W) ⟨e0, trivial⟩).mono fun e W' ⟨v, he, hv, hb⟩ => ?_
 subst he
 obtain rfl : v = .bool true := hv
 exact ⟨_, rfl, law_post laidOut0 (by kernel_rfl) rfl Tryz.underlying4 rfl hA' (by rw [hpq]; simp) hW' rfl hb⟩
theorem hostDrifts_fact_a : (Rows.hostDriftsRow.inPlace == Tryz.pinned.checked.prog.inPlace 9) = true := by kernel_rfl
theorem hostDrifts_fact_b : (Rows.hostDriftsRow.unfollowed == Tryz.pinned.checked.prog.unfollowed 9) = true := by kernel_rfl
theorem hostDrifts_fact_c : (Rows.hostDriftsRow.recurses == Tryz.pinned.checked.prog.recurses 9) = true := by kernel_rfl
theorem hostDrifts_fact_d : (Rows.hostDriftsRow.named == Tryz.pinned.checked.prog.varsNamed 9) = true := by kernel_rfl
theorem hostDrifts_facts : joinedFacts Tryz.pinned.checked.prog 9 Tryz.f9 Rows.hostDriftsSpec Rows.hostDriftsRow = true := by
 unfold joinedFacts
 rw [hostDrifts_fact_a, hostDrifts_fact_b, hostDrifts_fact_c, hostDrifts_fact_d]
 kernel_rfl
theorem hostDrifts_holds : Rows.HostDriftsSaid :=
 OpenClaim.holds_of_wide 9 Tryz.f9 rfl rfl rfl rfl rfl rfl rfl ⟨rfl, rfl, rfl, rfl, rfl⟩ rfl rfl rfl rfl rfl (by kernel_rfl) Tryz.func9 hostDrifts_facts
  (of_decide_eq_true (by kernel_rfl)) (by unfold Func.isWrapper; first | (rw [if_pos (by decide +kernel)]; kernel_rfl) | (rw [if_neg (by decide +kernel)]; exact ⟨rfl, rfl⟩))
  (fun os started H enc _ => hostDrifts_lifted os started H enc)
end Go.Proofs.YtppeeogffbpcbaaGreat
