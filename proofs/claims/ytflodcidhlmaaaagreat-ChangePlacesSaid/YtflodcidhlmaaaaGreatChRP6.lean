/-
  The law of the places.
-/
import Derived.Test.YtflodcidhlmaaaaGreatRows
import Derived.Test.YtflodcidhlmaaaaGreatChRP5
set_option linter.all false
namespace Go.Proofs.YtflodcidhlmaaaaGreat
open Go Go.RowKit Cp

abbrev sndS : List (List Int) := optS ++ optS.map (14 :: ·)
theorem sndE_suites {i : Nat} {e : Ept} (h : SndE i e) : e.suites ∈ sndS := by
  rcases h.suites with h | ⟨l, h, h2⟩
  · exact List.mem_append_left _ h
  · rw [h2]; exact List.mem_append_right _ (List.mem_map_of_mem h)
theorem sndS_ok : ∀ l ∈ sndS, suitesB l = true ∧ l.length ≤ 5 := by decide +kernel
theorem name_ok : ∀ n ∈ nameL, wordB n = true ∧ n.length ≤ 3 := by decide +kernel
theorem hash_ok : [2, 3].all hashB = true := by decide +kernel
theorem of_rsa2 : ofB 5 2048 2 = true := by decide +kernel
theorem leaf_idB {nm : List UInt8} {k : Nat} {id : Int} (h : nameL[k]? = some nm) (hid : id = 100 + (k : Nat)) {s : Int} (hs : 0 ≤ s ∧ s < 4294967296) : idB (leafI nm 5 2048 id 901 1 s) = true := by
  subst hid
  have hk : k < 3 := lt_of_at h
  have hv := leaf_ok h hs (key := 1) (by omega)
  have hk2 : keyB (100 + (k : Nat)) = true := by unfold keyB; simp; omega
  unfold idB showsB; simp only [of_rsa2, hk2, List.all_cons, List.all_nil, hv]; simp
theorem sndE_ok {i : Nat} {e : Ept} (h : SndE i e) : EptOk e := by
  have hn := name_ok _ (List.mem_of_getElem? h.name)
  have hs := sndS_ok _ (sndE_suites h)
  obtain ⟨s, hs1, hs2⟩ := h.ids
  have hm := h.most; have hl := h.least
  refine ⟨hn.1, by omega, by omega, by omega, hs.1, by rw [hs2]; simp, by rw [h.anchors]; simp, by rw [h.anchors]; decide, by rw [h.hashes]; decide, ?_, by rw [h.anchors]; decide, by rw [h.hashes]; exact hash_ok⟩
  rw [hs2]; simp only [List.all_cons, List.all_nil, leaf_idB h.name rfl hs1, Bool.and_self]
theorem sndE_fits {i : Nat} {e : Ept} (h : SndE i e) : e.fits := by
  have hn := name_ok _ (List.mem_of_getElem? h.name)
  obtain ⟨s, hs1, hs2⟩ := h.ids
  refine ⟨by unfold maxLen; omega, fun x hx c hc => ?_⟩
  rw [hs2] at hx; simp at hx; subst hx; simp at hc; subst hc
  exact ⟨by show 4 ≤ maxLen; unfold maxLen; omega, by show e.name.length ≤ maxLen; unfold maxLen; omega, fun n hn2 => by simp at hn2; subst hn2; unfold maxLen; omega⟩
theorem sndE_small {i : Nat} {e : Ept} (h : SndE i e) : e.small := by
  have hs := sndS_ok _ (sndE_suites h)
  obtain ⟨s, hs1, hs2⟩ := h.ids
  refine ⟨by omega, by rw [h.anchors]; simp, by rw [h.hashes]; simp, by rw [hs2]; simp, fun x hx => ?_⟩
  rw [hs2] at hx; simp at hx; subst hx
  exact ⟨by simp, fun c hc => by simp at hc; subst hc; simp⟩
theorem id0_fits : zeroId.fits := fun c hc => by cases hc
abbrev eA (s : List Int) : Ept := ⟨[97, 112, 112], 1, 3, s, false, [], [], [], false⟩
theorem eA_fits (s : List Int) : (eA s).fits := ⟨by show 3 ≤ maxLen; unfold maxLen; omega, fun x hx => by cases hx⟩
theorem eA_small {s : List Int} (h : s.length ≤ 4) : (eA s).small := ⟨by show s.length ≤ _; omega, by show 0 ≤ _; omega, by show 0 ≤ _; omega, by show 0 ≤ _; omega, fun x hx => by cases hx⟩
theorem done_awake : doneR (eA [10, 8]) ⟨0, 2, 8, 0, zeroId⟩ = (eA [10], ⟨0, 1, 8, 1, zeroId⟩, 0) := by
  refine doneR_ok (e2 := eA [10]) (b := ⟨0, 1, 8, 1, zeroId⟩) (by decide) (by decide) ?_ (by decide)
  rfl


theorem ap_of {e : Ept} {c : Chg} {e2 : Ept} {b : Chg} {f : Int} (h : doneR e c = (e2, b, f)) (hf : e.fits) (hsm : e.small) (hcf : c.idn.fits) (hcs : c.idn.small) : Fun Tryz.prog 22 [agg (rowEp e), agg (rowChg c)] (tup [agg (rowEp e2), int f]) := by
  have := w_Apply24 hf hsm hcf hcs; rw [h] at this; exact this
theorem iv_of {e : Ept} {c : Chg} {e2 : Ept} {b : Chg} {f : Int} (h : doneR e c = (e2, b, f)) (hf : e.fits) (hsm : e.small) (hcf : c.idn.fits) (hcs : c.idn.small) : Fun Tryz.prog 25 [agg (rowEp e), agg (rowChg c)] (tup [agg (rowChg b), int f]) := by
  have := w_Inverse24 hf hsm hcf hcs; rw [h] at this; exact this

set_option maxRecDepth 20000 in
theorem w_awake24   : Fun Tryz.prog 21 [] (bool true) := by
 refine Fun.of Tryz.func21 rfl rfl (by exact Nat.le_of_ble_eq_true rfl) fun M0 w0 => ?_
 refine Tr.seq (Tr.reg0 (cm rfl (Ch.nil (Fin.go (Tr.seq (Tr.regT (tp rfl (ok_buildSlice (xs := [.const (.int .i64 (10)), .const (.int .i64 (8))]) (rows := [[_], [_]]) rfl rfl Tryz.underlying22 sz3 z3 rfl (by decide) ⟨⟨(by exact rfl), (VL.le (vl rfl) (one_cellsP _))⟩, ⟨⟨(by exact rfl), (VL.le (vl rfl) (one_cellsP _))⟩, trivial⟩⟩ (by decide)) ?_)))))))
 refine tp rfl (ok_build (rows := [(0, [_]), (1, [_]), (2, [_]), (3, [_])]) rfl bl35 zo35 ⟨⟨rfl, (VL.le (vl rfl) (one_cellsP _))⟩, ⟨⟨rfl, (VL.le (vl rfl) (one_cellsP _))⟩, ⟨⟨rfl, (VL.le (vl rfl) (one_cellsP _))⟩, ⟨⟨rfl, ⟨_, rfl, Pr.le_trans (full_le _ _) (one_cellsP _)⟩⟩, trivial⟩⟩⟩⟩ rfl) ?_
 refine TO.alloc rfl rfl (by decide) rfl z35 zo35 (fun b1 => ?_)
 refine TO.store_all 0 rfl rfl rfl (vl rfl) (VL.le (vl rfl) (agg_cellsP _)) rfl sz35 rfl rfl (TO.freeze 0 1 rfl rfl (TO.nil (Fin.go (Tr.seq (Tr.regT (tp rfl (ok_build (rows := [(1, [_]), (2, [_])]) rfl bl49 zo49 ⟨⟨rfl, (VL.le (vl rfl) (one_cellsP _))⟩, ⟨⟨rfl, (VL.le (vl rfl) (one_cellsP _))⟩, trivial⟩⟩ rfl) ?_))))))
 refine TO.alloc rfl rfl (by decide) rfl z49 zo49 (fun b2 => ?_)
 refine TO.store_all 0 rfl rfl rfl (vl rfl) (VL.le (vl rfl) (agg_cellsP _)) rfl sz49 rfl rfl (TO.freeze 0 2 rfl rfl (TO.nil (Fin.go (Tr.seq (Tr.regT (tp rfl (ok_loadA rfl agg35 sz35 (vl rfl) rfl rfl) (tp rfl (ok_loadA rfl agg49 sz49 (vl rfl) rfl rfl) (tp rfl (ok_call rfl (ap_of done_awake (eA_fits _) (eA_small (by simp)) id0_fits id0_small) ⟨⟨_, rfl, agg_le ⟨Pr.le_refl _, Pr.le_refl _, Pr.le_refl _, Pr.le_refl _, Pr.le_refl _, nil_slice 4, nil_slice 1, nil_slice 1, Pr.le_refl _, trivial⟩⟩, ⟨_, rfl, agg_le ⟨Pr.le_refl _, Pr.le_refl _, Pr.le_refl _, Pr.le_refl _, Pr.le_refl _, Pr.le_refl _, Pr.le_refl _, nil_slice 15, trivial⟩⟩, trivial⟩) (tm rfl (tp rfl (ok_extract rfl (vl rfl) rfl) (tp rfl (ok_extract rfl (vl rfl) rfl) ?_)))))))))))
 refine TO.alloc rfl rfl (by decide) rfl z35 zo35 (fun b3 => ?_)
 refine TO.store_all 0 rfl rfl rfl (vl rfl) (VL.le (vl rfl) (agg_cellsP _)) rfl sz35 rfl rfl (TO.freeze 0 3 rfl rfl (tm rfl (TO.nil (Fin.go (wk4 1 2 3 4 rfl (Tr.seq (Tr.regT (tp rfl (ok_loadA rfl agg35 sz35 (vl rfl) rfl rfl) (tp rfl (ok_loadA rfl agg49 sz49 (vl rfl) rfl rfl) (tp rfl (ok_call rfl (iv_of done_awake (eA_fits _) (eA_small (by simp)) id0_fits id0_small) ⟨⟨_, rfl, agg_le ⟨Pr.le_refl _, Pr.le_refl _, Pr.le_refl _, Pr.le_refl _, Pr.le_refl _, nil_slice 4, nil_slice 1, nil_slice 1, Pr.le_refl _, trivial⟩⟩, ⟨_, rfl, agg_le ⟨Pr.le_refl _, Pr.le_refl _, Pr.le_refl _, Pr.le_refl _, Pr.le_refl _, Pr.le_refl _, Pr.le_refl _, nil_slice 15, trivial⟩⟩, trivial⟩) (tm rfl (tp rfl (ok_extract rfl (vl rfl) rfl) (tp rfl (ok_extract rfl (vl rfl) rfl) ?_)))))))))))))
 refine TO.alloc rfl rfl (by decide) rfl z49 zo49 (fun b4 => ?_)
 refine TO.store_all 0 rfl rfl rfl (vl rfl) (VL.le (vl rfl) (agg_cellsP _)) rfl sz49 rfl rfl (TO.freeze 0 5 rfl rfl (tm rfl (TO.nil (Fin.go (wk4 3 4 5 6 rfl (Tr.seq (Tr.reg0 (cm rfl (co rfl (ki rfl rfl rfl rfl) (cm rfl ?_))))))))))
 refine Ch.cs 24 rfl ?_ ?_ <;> intro h1 q1
 refine cym h1 rfl (cy h1 rfl (ki rfl rfl rfl rfl) (co rfl (kpt rfl rfl h1 rfl) (cm rfl ?_)))
 refine Ch.cs 28 rfl ?_ ?_ <;> intro h2 q2
 refine cy h2 rfl (kfa rfl fo35_3 rfl rfl) (cy h2 rfl (kl1 rfl one22 rfl) (cy h2 rfl (ok_lenm rfl Tryz.underlying22 (vl rfl)) (cy h2 rfl (ki rfl rfl rfl rfl) (co rfl (kpt rfl rfl h2 rfl) (cm rfl ?_)))))
 refine Ch.cs 34 rfl ?_ ?_ <;> intro h3 q3
 refine cy h3 rfl (kfa rfl fo49_1 rfl rfl) (cy h3 rfl (kl1 rfl one3 rfl) (cy h3 rfl (ki rfl rfl rfl rfl) (co rfl (kpt rfl rfl h3 rfl) (cm rfl ?_))))
 refine Ch.cs 39 rfl ?_ ?_ <;> intro h4 q4
 refine cy h4 rfl (kfa rfl fo49_3 rfl rfl) (cy h4 rfl (kl1 rfl one3 rfl) (cy h4 rfl (ki rfl rfl rfl rfl) (co rfl (kpt rfl rfl h4 rfl) (cm rfl ?_))))
 refine Ch.cs 44 rfl ?_ ?_ <;> intro h5 q5
 refine cy h5 rfl (kfa rfl fo49_2 rfl rfl) (cy h5 rfl (kl1 rfl one3 rfl) (cy h5 rfl (ki rfl rfl rfl rfl) (co rfl (kpt rfl rfl h5 rfl) (cm rfl (Ch.nil (Fin.go (wk1 0 rfl (Tr.ret (Fin.ret1 rfl (OutW.bse _ _) rfl ?_)))))))))
 · exact Pr.le_refl _
 exact absurd h5 (by decide)
 exact absurd h4 (by decide)
 exact absurd h3 (by decide)
 exact absurd h2 (by decide)
 exact absurd h1 (by decide)
end Go.Proofs.YtflodcidhlmaaaaGreat
namespace Go.Proofs.YtflodcidhlmaaaaGreat
open Go Go.RowKit Cp Go.ChangeShapes Go.WideShapes Go.ChangeAt

theorem place_suites : ∀ l ∈ sndS, (∀ k ∈ List.range (l.length + 1), suitesB (l.take k ++ [9] ++ l.drop k) = true) ∧ (l.any fun y => (9 : Int) == y) = false := by decide +kernel
theorem done_place {e : Ept} (h : SndE 0 e) {K : Nat} (hK : K ≤ e.suites.length) : doneR e ⟨0, 1, 9, (K : Nat), zeroId⟩ = ({ e with suites := e.suites.take K ++ [9] ++ e.suites.drop K }, ⟨0, 2, 9, 0, zeroId⟩, 0) := by
  have ok := sndE_ok h
  have hp := place_suites _ (sndE_suites h)
  refine doneR_ok (eptB_iff.2 ok) (⟨⟨by show (1 : Int) ≤ 1; omega, by show (1 : Int) ≤ 12; omega⟩, by rfl⟩) ?_ (eptB_iff.2 { ok with suites := hp.1 K (List.mem_range.2 (by omega)) })
  unfold stepR; rw [if_pos rfl, if_neg (by simp only [Classical.not_not]; exact ⟨by omega, by omega⟩), if_neg (by rw [hp.2]; decide)]; rfl
theorem done_far {e : Ept} (h : SndE 0 e) {k : Int} (hk : k = (e.suites.length : Nat) + 1) : doneR e ⟨0, 1, 9, k, zeroId⟩ = (zeroEp, zeroChg, 2) := by
  refine doneR_err (eptB_iff.2 (sndE_ok h)) (⟨⟨by show (1 : Int) ≤ 1; omega, by show (1 : Int) ≤ 12; omega⟩, by rfl⟩) ?_
  unfold stepR; rw [if_pos rfl, if_pos (by show ¬ (0 ≤ k ∧ k ≤ _); omega)]
theorem ins1 {n : Int} (h : 2 ≤ n) : insX [1] n = [1, n] ∧ hasX [1] n = false := by
  have h1 : posI [1] n = 1 := posI_eq (by simp) (fun j y hj hy => by obtain rfl : j = 0 := (by omega); simp at hy; omega) (fun y hy => by simp at hy)
  constructor
  · unfold insX; rw [h1]; rfl
  · unfold hasX; rw [h1]; rfl
theorem ins2 {n : Int} (h : 2 ≤ n) : insX [1, n] 0 = [0, 1, n] ∧ hasX [1, n] 0 = false := by
  have h1 : posI [1, n] 0 = 0 := posI_eq (by simp) (fun j y hj hy => by omega) (fun y hy => by simp at hy; omega)
  constructor
  · unfold insX; rw [h1]; rfl
  · unfold hasX; rw [h1]; rfl
theorem asc2 {n : Int} (h : 2 ≤ n) : ascB [1, n] = true := by
  unfold ascB; rw [allI_iff]; intro j hj
  have : j = 0 ∨ j = 1 := by simp at hj; omega
  rcases this with rfl | rfl
  · rfl
  · unfold ascAt; simp; omega
theorem asc3 {n : Int} (h : 2 ≤ n) : ascB [0, 1, n] = true := by
  unfold ascB; rw [allI_iff]; intro j hj
  have : j = 0 ∨ j = 1 ∨ j = 2 := by simp at hj; omega
  rcases this with rfl | rfl | rfl
  · rfl
  · rfl
  · unfold ascAt; simp; omega
theorem keyB_in {n : Int} (h : 0 ≤ n ∧ n ≤ 300) : keyB n = true := by unfold keyB; simp; omega
theorem done_anc {e : Ept} (h : SndE 0 e) {n : Int} (hn : 0 ≤ n ∧ n < 256) : doneR e ⟨0, 7, 2 + n, 0, zeroId⟩ = ({ e with anchors := [1, 2 + n] }, ⟨0, 8, 2 + n, 0, zeroId⟩, 0) := by
  have ok := sndE_ok h
  refine doneR_ok (eptB_iff.2 ok) (⟨⟨by show (1 : Int) ≤ 7; omega, by show (7 : Int) ≤ 12; omega⟩, by rfl⟩) ?_ (eptB_iff.2 { ok with anc := asc2 (by omega), ancl := by simp, keys := by simp [keyB_in (n := 1) (by omega), keyB_in (n := 2 + n) (by omega)] })
  have h1 := ins1 (n := 2 + n) (by omega)
  rw [stepR_7 rfl]
  show (if hasX e.anchors (2 + n) = true then (Except.error 41 : Except Int (Ept × Chg)) else Except.ok ({ e with anchors := insX e.anchors (2 + n) }, (⟨0, 8, 2 + n, 0, zeroId⟩ : Chg))) = _
  rw [h.anchors, h1.1, h1.2]; rfl
theorem done_zero {e : Ept} (h : SndE 0 e) {n : Int} (hn : 0 ≤ n ∧ n < 256) : doneR { e with anchors := [1, 2 + n] } ⟨0, 7, 0, 0, zeroId⟩ = ({ e with anchors := [0, 1, 2 + n] }, ⟨0, 8, 0, 0, zeroId⟩, 0) := by
  have ok := sndE_ok h
  refine doneR_ok (eptB_iff.2 { ok with anc := asc2 (by omega), ancl := by simp, keys := by simp [keyB_in (n := 1) (by omega), keyB_in (n := 2 + n) (by omega)] }) (⟨⟨by show (1 : Int) ≤ 7; omega, by show (7 : Int) ≤ 12; omega⟩, by rfl⟩) ?_ (eptB_iff.2 { ok with anc := asc3 (by omega), ancl := by simp, keys := by simp [keyB_in (n := 0) (by omega), keyB_in (n := 1) (by omega), keyB_in (n := 2 + n) (by omega)] })
  have h1 := ins2 (n := 2 + n) (by omega)
  rw [stepR_7 rfl]
  show (if hasX [1, 2 + n] 0 = true then (Except.error 41 : Except Int (Ept × Chg)) else Except.ok ({ e with anchors := insX [1, 2 + n] 0 }, (⟨0, 8, 0, 0, zeroId⟩ : Chg))) = _
  rw [h1.1, h1.2]; rfl
theorem place_ex (a : Int) (m : Nat) (ha : 0 ≤ a) : ∃ K : Nat, a.tmod ((m : Int) + 1) = ((K : Nat) : Int) ∧ K ≤ m := by
  have h1 := Int.tmod_nonneg ((m : Int) + 1) ha
  have h2 := Int.tmod_lt_of_pos a (show (0 : Int) < (m : Int) + 1 by omega)
  exact ⟨(a.tmod ((m : Int) + 1)).toNat, by omega, by omega⟩
theorem new_lt {l : List Int} {K i : Nat} {s : Int} (hs : l[i]? = some s) (hi : i < K) (hK : K ≤ l.length) : (l.take K ++ [9] ++ l.drop K)[i]? = some s := by
  rw [List.append_assoc, List.getElem?_append_left (by rw [List.length_take]; omega), List.getElem?_take, if_pos hi]; exact hs
theorem new_ge {l : List Int} {K i : Nat} {s : Int} (hs : l[i]? = some s) (hi : K ≤ i) (hK : K ≤ l.length) : (l.take K ++ [9] ++ l.drop K)[i + 1]? = some s := by
  rw [List.getElem?_append_right (by simp [List.length_take]; omega), List.getElem?_drop]
  rw [← hs]; congr 1; simp [List.length_take]; omega
theorem new_at {l : List Int} {K : Nat} (hK : K ≤ l.length) : (l.take K ++ [9] ++ l.drop K)[K]? = some 9 := by
  rw [List.append_assoc, List.getElem?_append_right (by rw [List.length_take]; omega)]
  rw [List.length_take, show K - min K l.length = 0 by omega]; rfl
theorem new_len {l : List Int} {K : Nat} (hK : K ≤ l.length) : (l.take K ++ [9] ++ l.drop K).length = l.length + 1 := by simp [List.length_take, List.length_drop]; omega

set_option maxRecDepth 20000 in
set_option maxHeartbeats 4000000 in
theorem w_ChangePlaces {t : List Int} {a n : Int} (ha : 0 ≤ a ∧ a < 256) (hn : 0 ≤ n ∧ n < 256) : Fun Tryz.prog 4 [ints t, is (.int .u8 a), is (.int .u8 n)] (bool true) := by
 refine Fun.of Tryz.func4 rfl rfl (by exact Nat.le_of_ble_eq_true rfl) fun M0 w0 => ?_
 refine Tr.seq (Tr.reg0 (cm rfl (Ch.nil (Fin.go (Tr.seq (Tr.seq (Tr.reg0 (cm rfl (co rfl (ok_call rfl (w_Light) ⟨ke rfl, trivial⟩) (co rfl (ok_not rfl (vl rfl)) (Ch.nil (Fin.go ?_))))))))))))
 refine Tr.cn rfl ?_ ?_ <;> intro h1 q1
 refine Tr.seq (Tr.reg0 (co rfl (ok_call rfl (w_awake24) trivial) (cm rfl (Ch.nil (Fin.go (Tr.ret (Fin.then_ret (Fin.ret1 rfl (OutW.bse _ _) rfl ?_))))))))
 · exact Pr.le_refl _
 have ht4 : t.length ≤ 400 := by simpa using h1
 have ht9 : t.length ≤ 1000000000 := by omega
 refine Tr.skip (Fin.go (Tr.seq (Tr.regT (tm rfl (TO.pad ?_)))))
 refine TO.efs 0 rfl rfl (by decide) (ef_call rfl rfl (by decide) rfl (w_Roll (l := t) ht9) ⟨ke rfl, trivial⟩) (fun v1 => ?_)
 refine TO.opn 25 0 _ rfl rfl (fun _ => rfl) (fun b1 => ?_)
 refine TO.efc 0 rfl rfl (by decide) (ef_callc rfl rfl (by decide) rfl (w_Sound) ⟨ke rfl, trivial⟩) ?_
 refine TO.ex 26 rfl (fun z1 => TO.fact 26 rfl fun hz1 => ?_)
 obtain ⟨e, he0⟩ := at_ (l := z1) (k := 0) (by omega)
 have hse : SndE 0 e := hz1.2 0 e he0
 have hsl := (sndS_ok _ (sndE_suites hse)).2
 refine tp rfl (ok_field1 (k := 0) rfl (by kernel_rfl) one27 sz27 (vl rfl) rfl) ?_
 refine tp rfl (ok_indexAddr rfl Tryz.underlying27 sz35 (vl rfl) (vl rfl) (by omega) (row_atI (f := rowEp) (i := 0) he0)) (tp rfl (ok_loadA rfl agg35 sz35 (vl rfl) rfl rfl) ?_)
 refine TO.alloc rfl rfl (by decide) rfl z35 zo35 (fun b2 => ?_)
 refine TO.store_all 0 rfl rfl rfl (vl rfl) (VL.le (vl rfl) (agg_cellsP _)) rfl sz35 rfl rfl (TO.freeze 0 7 rfl rfl (TO.nil (Fin.openD 0 rfl (fun s1 => ?_))))
 refine Fin.go (Tr.seq (Tr.reg0 (cm rfl ?_)))
 refine co rfl (ok_convI rfl Tryz.underlying5 Tryz.underlying3 (vl rfl) (by unfold InI; omega)) ?_
 refine co rfl (kfa rfl fo35_3 rfl rfl) (co rfl (kl1 rfl one22 rfl) (co rfl (ok_lenm rfl Tryz.underlying22 (vl rfl)) (cad rfl rfl rfl rfl (by omega) (co rfl (ok_rem rfl (vl rfl) (vl rfl) (by omega)) (cm rfl (Ch.nil (Fin.go (wk3 2 7 8 rfl (Tr.seq ?_)))))))))
 obtain ⟨K, hK, hKl⟩ := place_ex a e.suites.length ha.1
 refine Tr.re 8 rfl (int_eq hK) ?_
 have hnl := new_len hKl
 refine Tr.regT (tp rfl (ok_loadA rfl agg35 sz35 (vl rfl) rfl rfl) (tm rfl (tp rfl (ok_build (rows := [(1, [_]), (2, [_]), (3, [_])]) rfl bl49 zo49 ⟨⟨rfl, (VL.le (vl rfl) (one_cellsP _))⟩, ⟨⟨rfl, (VL.le (vl rfl) (one_cellsP _))⟩, ⟨⟨rfl, (VL.le (vl rfl) (one_cellsP _))⟩, trivial⟩⟩⟩ rfl) (tp rfl (ok_call rfl (ap_of (done_place hse hKl) (sndE_fits hse) (sndE_small hse) id0_fits id0_small) ⟨ke rfl, ⟨_, rfl, agg_le ⟨Pr.le_refl _, Pr.le_refl _, Pr.le_refl _, Pr.le_refl _, Pr.le_refl _, Pr.le_refl _, Pr.le_refl _, nil_slice 15, trivial⟩⟩, trivial⟩) (tm rfl (tp rfl (ok_extract rfl (vl rfl) rfl) (tp rfl (ok_extract rfl (vl rfl) rfl) ?_)))))))
 refine TO.alloc rfl rfl (by decide) rfl z35 zo35 (fun b3 => ?_)
 refine TO.store_all 0 rfl rfl rfl (vl rfl) (VL.le (vl rfl) (agg_cellsP _)) rfl sz35 rfl rfl (TO.freeze 0 9 rfl rfl (tm rfl (TO.nil (Fin.go (wk5 2 7 8 9 10 rfl (Tr.seq (Tr.seq (Tr.reg0 (cm rfl (co rfl (ki rfl rfl rfl rfl) (cm rfl ?_)))))))))))
 refine Ch.cs 46 rfl ?_ ?_ <;> intro h2 q2
 exact absurd rfl q2
 refine cy h2 rfl (kfa rfl fo35_3 rfl rfl) (cy h2 rfl (kl1 rfl one22 rfl) (cy h2 rfl (ok_lenm rfl Tryz.underlying22 (vl rfl)) (cy h2 rfl (kfa rfl fo35_3 rfl rfl) (cy h2 rfl (kl1 rfl one22 rfl) (cy h2 rfl (ok_lenm rfl Tryz.underlying22 (vl rfl)) ?_)))))
 refine cy h2 rfl (ok_add rfl (vl rfl) (vl rfl) ?hin) ?_; case hin => unfold InI; omega
 refine cy h2 rfl (ki rfl rfl rfl rfl) (co rfl (kpf rfl rfl h2 rfl) (cm rfl ?_))
 refine Ch.cs 56 rfl ?_ ?_ <;> intro h3 q3
 exfalso; have hq_ : ¬ (((e.suites.take K ++ [9] ++ e.suites.drop K).length : Nat) : Int) = (e.suites.length : Nat) + 1 := q3
 rw [hnl] at hq_; omega
 refine cy h3 rfl (kfa rfl fo35_3 rfl rfl) (cy h3 rfl (kl1 rfl one22 rfl) (cym h3 rfl ?_))
 refine cy h3 rfl (ok_indexAddr rfl Tryz.underlying22 sz3 (vl rfl) (vl rfl) (by omega) (row_atI (f := fun n : Int => [int n]) (by rw [Int.toNat_natCast]; exact new_at hKl))) ?_
 refine cy h3 rfl (kl1 rfl one3 rfl) (cy h3 rfl (ki rfl rfl rfl rfl) (co rfl (kpf rfl rfl h3 rfl) (Ch.nil (Fin.go (wk5 2 7 8 9 63 rfl ?_)))))
 refine Tr.cn rfl ?_ ?_ <;> intro h4 q4
 exact absurd rfl q4
 refine Tr.skip (Fin.go (Tr.seq (Tr.seq (Tr.reg0 (co rfl (kfa rfl fo35_3 rfl rfl) (co rfl (kl1 rfl one22 rfl) (co rfl (ok_lenm rfl Tryz.underlying22 (vl rfl)) (cm rfl (Ch.nil (Fin.go (Tr.block (Tr.loopw [(2, _), (7, _), (8, _), (9, _), (65, _), (66, _)] (kk6 rfl) (fun i : Nat => [(67, int ((i : Nat) : Int))]) (fun i : Nat => i ≤ (e.suites).length) (fun i : Nat => (e.suites).length - i) 0 (Nat.zero_le _) ⟨ke rfl, trivial⟩ ?_))))))))))))
 rintro i hle_i
 refine Tr.seq (Tr.reg0 (co rfl (ki rfl rfl rfl rfl) (Ch.nil (Fin.go (Tr.seq ?_)))))
 refine Tr.cn rfl ?_ ?_ <;> intro h5 q5
 have hk_i : i < (e.suites).length := lt_of_dec h5
 obtain ⟨s_, hx_i⟩ := at_ hk_i
 refine Tr.skip (Fin.go (Tr.seq (Tr.block (Tr.seq (Tr.reg0 (cm rfl (co rfl (ok_indexAddr rfl Tryz.underlying22 sz3 (vl rfl) (vl rfl) (by omega) (by exact row_at (by assumption))) ?_)))))))
 refine co rfl (kl1 rfl one3 rfl) (cm rfl (cm rfl (Ch.nil (Fin.go (Tr.seq (Tr.reg0 (cm rfl (cm rfl (Ch.nil (Fin.go (wk10 2 7 8 9 11 12 13 65 66 67 rfl (Tr.seq (Tr.seq (Tr.reg0 ?_))))))))))))))
 refine cm rfl (cm rfl (co rfl (ki rfl rfl rfl rfl) (Ch.nil (Fin.go ?_))))
 refine Tr.cn rfl ?_ ?_ <;> intro h6 q6
 have hnew := new_ge hx_i (K := K) (by have := q6; omega) hKl
 refine Tr.reg0 (cm rfl (cad rfl rfl rfl rfl (by omega) (cm rfl (Ch.nil (Fin.go (wk9 2 7 8 9 12 13 65 66 67 rfl (Tr.seq (Tr.reg0 (co rfl (kfa rfl fo35_3 rfl rfl) (co rfl (kl1 rfl one22 rfl) (cm rfl (co rfl (ok_indexAddr rfl Tryz.underlying22 sz3 (vl rfl) (vl rfl) (by omega) (row_atI (f := fun n : Int => [int n]) hnew)) (co rfl (kl1 rfl one3 rfl) ?_)))))))))))))
 refine cm rfl (co rfl (ki rfl rfl rfl rfl) (Ch.nil (Fin.go (wk8 2 7 8 9 65 66 67 84 rfl ?_))))
 refine Tr.cn rfl ?_ ?_ <;> intro h7 q7
 exact absurd rfl q7
 refine Tr.skip (Fin.block (Fin.go (Tr.reg0 (cad rfl rfl rfl rfl (by omega) (cm rfl (Ch.nil (Fin.fam_same (i + 1) ⟨hk_i, by omega⟩ ⟨⟨_, rfl, int_succ i⟩, ke rfl, ke rfl, ke rfl, ke rfl, ke rfl, ke rfl, trivial⟩)))))))
 have hnew := new_lt hx_i (K := K) (by have := q6; omega) hKl
 refine Tr.skip (Fin.go (Tr.seq (Tr.reg0 (co rfl (kfa rfl fo35_3 rfl rfl) (co rfl (kl1 rfl one22 rfl) (cm rfl (co rfl (ok_indexAddr rfl Tryz.underlying22 sz3 (vl rfl) (vl rfl) (by omega) (row_atI (f := fun n : Int => [int n]) hnew)) (co rfl (kl1 rfl one3 rfl) (cm rfl (co rfl (ki rfl rfl rfl rfl) (Ch.nil (Fin.go (wk8 2 7 8 9 65 66 67 84 rfl ?_)))))))))))))
 refine Tr.cn rfl ?_ ?_ <;> intro h8 q8
 exact absurd rfl q8
 refine Tr.skip (Fin.block (Fin.go (Tr.reg0 (cad rfl rfl rfl rfl (by omega) (cm rfl (Ch.nil (Fin.fam_same (i + 1) ⟨hk_i, by omega⟩ ⟨⟨_, rfl, int_succ i⟩, ke rfl, ke rfl, ke rfl, ke rfl, ke rfl, ke rfl, trivial⟩)))))))
 have he_i : i = (e.suites).length := by have := ge_of_dec h5; omega
 refine Tr.exit (Fin.then_exit (Fin.then_exit (Fin.block_here (Fin.go (Tr.seq (Tr.regT (tp rfl (ok_loadA rfl agg35 sz35 (vl rfl) rfl rfl) (tm rfl ?_))))))))
 refine tp rfl (ok_convI rfl Tryz.underlying5 Tryz.underlying3 (vl rfl) (by unfold InI; omega)) ?_
 refine tp rfl (ok_add rfl (vl rfl) (vl rfl) ?hin) ?_; case hin => unfold InI; omega
 refine tp rfl (ok_build (rows := [(1, [_]), (2, [_])]) rfl bl49 zo49 ⟨⟨rfl, (VL.le (vl rfl) (one_cellsP _))⟩, ⟨⟨rfl, (VL.le (vl rfl) (one_cellsP _))⟩, trivial⟩⟩ rfl) (tp rfl (ok_call rfl (ap_of (done_anc hse hn) (sndE_fits hse) (sndE_small hse) id0_fits id0_small) ⟨ke rfl, ⟨_, rfl, agg_le ⟨Pr.le_refl _, Pr.le_refl _, Pr.le_refl _, Pr.le_refl _, Pr.le_refl _, Pr.le_refl _, Pr.le_refl _, nil_slice 15, trivial⟩⟩, trivial⟩) (tm rfl (tp rfl (ok_extract rfl (vl rfl) rfl) (tp rfl (ok_extract rfl (vl rfl) rfl) ?_))))
 refine TO.alloc rfl rfl (by decide) rfl z35 zo35 (fun b4 => ?_)
 refine TO.store_all 0 rfl rfl rfl (vl rfl) (VL.le (vl rfl) (agg_cellsP _)) rfl sz35 rfl rfl (TO.freeze 0 14 rfl rfl (tm rfl (TO.nil (Fin.go (wk4 2 7 14 15 rfl (Tr.seq (Tr.regT (tp rfl (ok_loadA rfl agg35 sz35 (vl rfl) rfl rfl) (tp rfl (ok_build (rows := [(1, [_]), (2, [_])]) rfl bl49 zo49 ⟨⟨rfl, (VL.le (vl rfl) (one_cellsP _))⟩, ⟨⟨rfl, (VL.le (vl rfl) (one_cellsP _))⟩, trivial⟩⟩ rfl) ?_)))))))))
 refine tp rfl (ok_call rfl (ap_of (done_zero hse hn) ⟨(sndE_fits hse).name, (sndE_fits hse).ids⟩ { (sndE_small hse) with anchors := by simp } id0_fits id0_small) ⟨ke rfl, ⟨_, rfl, agg_le ⟨Pr.le_refl _, Pr.le_refl _, Pr.le_refl _, Pr.le_refl _, Pr.le_refl _, Pr.le_refl _, Pr.le_refl _, nil_slice 15, trivial⟩⟩, trivial⟩) ?_
 refine tm rfl (tp rfl (ok_extract rfl (vl rfl) rfl) (tp rfl (ok_extract rfl (vl rfl) rfl) ?_))
 refine TO.alloc rfl rfl (by decide) rfl z35 zo35 (fun b5 => ?_)
 refine TO.store_all 0 rfl rfl rfl (vl rfl) (VL.le (vl rfl) (agg_cellsP _)) rfl sz35 rfl rfl (TO.freeze 0 16 rfl rfl (tm rfl (TO.nil (Fin.go (wk5 2 7 15 16 17 rfl (Tr.seq (Tr.regT (tp rfl (ok_loadA rfl agg35 sz35 (vl rfl) rfl rfl) (tp rfl (kfa rfl fo35_3 rfl rfl) (tp rfl (kl1 rfl one22 rfl) (tp rfl (ok_lenm rfl Tryz.underlying22 (vl rfl)) ?_)))))))))))
 refine tp rfl (ok_add rfl (vl rfl) (vl rfl) ?hin) ?_; case hin => unfold InI; omega
 refine tp rfl (ok_build (rows := [(1, [_]), (2, [_]), (3, [_])]) rfl bl49 zo49 ⟨⟨rfl, (VL.le (vl rfl) (one_cellsP _))⟩, ⟨⟨rfl, (VL.le (vl rfl) (one_cellsP _))⟩, ⟨⟨rfl, (VL.le (vl rfl) (one_cellsP _))⟩, trivial⟩⟩⟩ rfl) (tp rfl (ok_call rfl (ap_of (done_far hse rfl) (sndE_fits hse) (sndE_small hse) id0_fits id0_small) ⟨ke rfl, ⟨_, rfl, agg_le ⟨Pr.le_refl _, Pr.le_refl _, Pr.le_refl _, Pr.le_refl _, Pr.le_refl _, Pr.le_refl _, Pr.le_refl _, nil_slice 15, trivial⟩⟩, trivial⟩) (tm rfl (tp rfl (ok_extract rfl (vl rfl) rfl) (tp rfl (ok_extract rfl (vl rfl) rfl) ?_))))
 refine TO.alloc rfl rfl (by decide) rfl z35 zo35 (fun b6 => ?_)
 refine TO.store_all 0 rfl rfl rfl (vl rfl) (VL.le (vl rfl) (agg_cellsP _)) rfl sz35 rfl rfl (TO.freeze 0 18 rfl rfl (tm rfl (TO.nil (Fin.go (wk5 2 15 16 17 19 rfl (Tr.seq (Tr.reg0 (cm rfl (co rfl (ki rfl rfl rfl rfl) (cm rfl ?_))))))))))
 refine Ch.cs 113 rfl ?_ ?_ <;> intro h9 q9
 refine cym h9 rfl (cy h9 rfl (ki rfl rfl rfl rfl) (co rfl (kpt rfl rfl h9 rfl) (cm rfl ?_)))
 refine Ch.cs 117 rfl ?_ ?_ <;> intro h10 q10
 refine cym h10 rfl (cy h10 rfl (ki rfl rfl rfl rfl) (co rfl (kpt rfl rfl h10 rfl) (cm rfl ?_)))
 refine Ch.cs 121 rfl ?_ ?_ <;> intro h11 q11
 refine cy h11 rfl (kfa rfl fo35_6 rfl rfl) (cy h11 rfl (kl1 rfl one22 rfl) (cy h11 rfl (ok_lenm rfl Tryz.underlying22 (vl rfl)) (cy h11 rfl (ki rfl rfl rfl rfl) (co rfl (kpt rfl rfl h11 rfl) (cm rfl ?_)))))
 refine Ch.cs 127 rfl ?_ ?_ <;> intro h12 q12
 refine cy h12 rfl (kfa rfl fo35_6 rfl rfl) (cy h12 rfl (kl1 rfl one22 rfl) (cy h12 rfl (ok_indexAddr rfl Tryz.underlying22 sz3 (vl rfl) (vl rfl) (by omega) rfl) (cy h12 rfl (kl1 rfl one3 rfl) (cy h12 rfl (ki rfl rfl rfl rfl) (co rfl (kpt rfl rfl h12 rfl) (cm rfl ?_))))))
 refine Ch.cs 134 rfl ?_ ?_ <;> intro h13 q13
 refine cy h13 rfl (kfa rfl fo35_6 rfl rfl) (cy h13 rfl (kl1 rfl one22 rfl) (cy h13 rfl (ok_indexAddr rfl Tryz.underlying22 sz3 (vl rfl) (vl rfl) (by omega) rfl) (cy h13 rfl (kl1 rfl one3 rfl) (cy h13 rfl (ki rfl rfl rfl rfl) (co rfl (kpt rfl rfl h13 rfl) (cm rfl ?_))))))
 refine Ch.cs 141 rfl ?_ ?_ <;> intro h14 q14
 refine cy h14 rfl (kfa rfl fo35_6 rfl rfl) (cy h14 rfl (kl1 rfl one22 rfl) (cy h14 rfl (ok_indexAddr rfl Tryz.underlying22 sz3 (vl rfl) (vl rfl) (by omega) rfl) (cy h14 rfl (kl1 rfl one3 rfl) (cym h14 rfl ?_))))
 refine cy h14 rfl (ok_convI rfl Tryz.underlying5 Tryz.underlying3 (vl rfl) (by unfold InI; omega)) ?_
 refine cy h14 rfl (ok_add rfl (vl rfl) (vl rfl) ?hin) ?_; case hin => unfold InI; omega
 refine cy h14 rfl (ki rfl rfl rfl rfl) (co rfl (kpt rfl rfl h14 rfl) (cm rfl ?_))
 refine Ch.cs 151 rfl ?_ ?_ <;> intro h15 q15
 refine cy h15 rfl (ok_call rfl (w_awake24) trivial) (co rfl (kpt rfl rfl h15 rfl) (cm rfl (Ch.nil (Fin.go (wk1 6 rfl (Tr.ret (Fin.ret1 rfl (OutW.bse _ _) rfl ?_)))))))
 · exact Pr.le_refl _
 exact absurd rfl q15
 exact absurd rfl q14
 exact absurd rfl q13
 exact absurd rfl q12
 exact absurd rfl q11
 exact absurd rfl q10
 exact absurd rfl q9
set_option maxRecDepth 40000 in
theorem changePlaces_lifted (os : Os) (started : os.Started) (H : Type) (enc : TypeId × Value → H) :
    ReturnsInHanded {} Tryz.checked os 4 .any (Rows.changePlacesSpec.pre6 enc Tryz.prog Tryz.f4 Rows.changePlacesRow.domain false) (Rows.changePlacesSpec.post enc Tryz.prog Tryz.f4 false true false false) := by
  refine returnsInHanded_of_change (C := Tryz.checked) own0 started (by kernel_rfl) Tryz.func4
    (ChangeSpec.witness6 (enc := enc) (C := Tryz.checked) false ⟨#[], #[.slice none 0 0, .int .u8 0, .int .u8 0], []⟩ 8 (by kernel_rfl) (by kernel_rfl) (by kernel_rfl) (by kernel_rfl)) ?_
  intro W base args ds gs before hval0 hW hcnd _
  have hval : ∀ (j : Nat) t v, Tryz.f4.params[j]? = some t → args[j]? = some v → Value.okWide Tryz.prog W .any base t v := hval0
  have hW' := hW
  obtain ⟨p, q, hA0, hV, hpq, hfz, hnd⟩ := hW
  have hA : DataW.TrodAll enc Tryz.prog W 0 (fun _ => true) true Tryz.f4.params.toList args.toList ds p := hA0
  have hA' := hA
  rw [Tryz.params4] at hA hval
  obtain ⟨v0, v1, v2, d0, d1, d2, p0, p1, p2, rfl, rfl, hp, h0, h1, h2⟩ := trodAll_three hA
  obtain ⟨rfl, rfl⟩ := trodVars_none hV
  obtain ⟨a0, hr0, e0⟩ := arg_one (opens_ints Tryz.underlying22 Tryz.underlying3 (by kernel_rfl)) h0 (by obtain ⟨_, _, _, rfl⟩ := okWide_slice Tryz.underlying22 (hval 0 22 v0 rfl rfl); rfl)
  obtain ⟨a1, hr1, e1⟩ := arg_one (opens_int Tryz.underlying5) h1 (by obtain ⟨_, rfl⟩ := okWide_int Tryz.underlying5 (hval 1 5 v1 rfl rfl); rfl)
  obtain ⟨a2, hr2, e2⟩ := arg_one (opens_int Tryz.underlying5) h2 (by obtain ⟨_, rfl⟩ := okWide_int Tryz.underlying5 (hval 2 5 v2 rfl rfl); rfl)
  refine ((w_ChangePlaces (u8_in hr1) (u8_in hr2)).2 noM W [v0, v1, v2] (noM_bd W) ⟨e0, e1, e2, trivial⟩).mono fun e W' ⟨v, he, hv, hb⟩ => ?_
  subst he
  obtain rfl : v = .bool true := hv
  exact ⟨_, rfl, law_post laidOut0 (by kernel_rfl) rfl Tryz.underlying4 rfl hA' (by rw [hpq]; simp) hW' rfl hb⟩
set_option maxRecDepth 40000 in
theorem changePlaces_holds : Rows.ChangePlacesSaid :=
  OpenClaim.holds_of_wide 4 Tryz.f4 rfl rfl rfl rfl rfl rfl rfl ⟨rfl, rfl, rfl, rfl, rfl⟩ rfl rfl rfl rfl rfl (by kernel_rfl) Tryz.func4 (by kernel_rfl)
    (of_decide_eq_true (by kernel_rfl)) (by unfold Func.isWrapper; first | (rw [if_pos (by decide +kernel)]; kernel_rfl) | (rw [if_neg (by decide +kernel)]; exact ⟨rfl, rfl⟩))
    (fun os started H enc _ => changePlaces_lifted os started H enc)
end Go.Proofs.YtflodcidhlmaaaaGreat
