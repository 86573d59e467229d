/-
  The law: changes of different endpoints commute; the ends of an edge depend on the relevant changes alone.
-/
import Derived.Test.YtppeeogffbpcbaaGreatRows
import Derived.Test.YtppeeogffbpcbaaGreatElCP6
set_option linter.all false
set_option maxRecDepth 40000
set_option maxHeartbeats 16000000
namespace Go.Proofs.YtppeeogffbpcbaaGreat
open Go Go.RowKit Cp

/-- Edges, all ahead of (i, j). -/
structure EdI (n : Nat) (i j : Int) (l : List Edg) : Prop where
  at_ : ∀ k, k < l.length → edgeAt n l k = true
  lt : ∀ g ∈ l, g.client < i ∨ (g.client = i ∧ g.server < j)
theorem EdI.nil (n : Nat) (i j : Int) : EdI n i j [] := ⟨fun k hk => by simp at hk, fun g hg => by simp at hg⟩
theorem EdI.step {n : Nat} {i j : Int} {l : List Edg} (h : EdI n i j l) : EdI n i (j + 1) l := ⟨h.at_, fun g hg => by have := h.lt g hg; omega⟩
theorem EdI.row {n : Nat} {i j : Int} {l : List Edg} (h : EdI n i j l) : EdI n (i + 1) 0 l := ⟨h.at_, fun g hg => by have := h.lt g hg; omega⟩
theorem EdI.snoc {n : Nat} {i j : Int} {l : List Edg} (h : EdI n i j l) (hi : 0 ≤ i ∧ i < n) (hj : 0 ≤ j ∧ j < n) (hn : i ≠ j) : EdI n i (j + 1) (l ++ [⟨i, j⟩]) := by
  refine ⟨fun k hk => ?_, fun g hg => ?_⟩
  · rw [List.length_append] at hk; simp at hk
    rcases Nat.lt_or_ge k l.length with hl | hl
    · have := h.at_ k hl
      unfold edgeAt at this ⊢
      rw [List.getElem?_append_left hl, List.getElem?_append_left (show k - 1 < l.length by omega)]; exact this
    · have : k = l.length := by omega
      subst this
      unfold edgeAt
      rw [List.getElem?_append_right (Nat.le_refl _), Nat.sub_self]
      rcases Nat.eq_zero_or_pos l.length with hz | hz
      · obtain rfl := List.eq_nil_of_length_eq_zero hz
        simp; omega
      · obtain ⟨y, hy⟩ := Cp.at_ (l := l) (k := l.length - 1) (by omega)
        rw [List.getElem?_append_left (show l.length - 1 < l.length by omega), hy]
        have := h.lt y (List.mem_of_getElem? hy)
        simp; omega
  · rcases List.mem_append.1 hg with hg | hg
    · have := h.lt g hg; omega
    · simp at hg; subst hg; right; exact ⟨rfl, by show j < j + 1; omega⟩
theorem names_lt : ∀ i, i < 2 → Lib.compareBytes (nameL[i]?.getD []) (nameL[i + 1]?.getD []) = -1 := by decide +kernel
/-- What such an estate is. -/
structure SndSt (e : Est) : Prop where
  n2 : 2 ≤ e.eps.length
  n3 : e.eps.length ≤ 3
  snd : SndL e.eps
  ed : ∀ k, k < e.edges.length → edgeAt e.eps.length e.edges k = true
  g1 : 1 ≤ e.edges.length
  g3 : e.edges.length ≤ 3
  it : ∀ x ∈ e.items, ItmS x
  i2 : e.items.length ≤ 2
theorem SndSt.ok {e : Est} (h : SndSt e) : estB e = true := by
  have h3 := h.n3; have g3 := h.g3; have i2 := h.i2
  refine est_iff.2 ⟨fun j hj => ?_, by omega, h.ed, by omega, List.all_eq_true.2 fun x hx => (h.it x hx).ok, by omega⟩
  obtain ⟨x, hx⟩ := at_ hj
  have hs := h.snd j x hx
  unfold epAt
  rw [hx, Option.getD_some, eptB_iff.2 (sndE_ok hs), Bool.true_and, Bool.or_eq_true, decide_eq_true_eq, decide_eq_true_eq]
  rcases Nat.eq_zero_or_pos j with hz | hz
  · exact .inl hz
  · right
    obtain ⟨y, hy⟩ := at_ (l := e.eps) (k := j - 1) (by omega)
    have hs2 := h.snd _ y hy
    rw [hy, Option.getD_some]
    have := names_lt (j - 1) (by omega)
    rw [hs2.name, show j - 1 + 1 = j by omega, hs.name] at this
    exact this
theorem SndSt.fits {e : Est} (h : SndSt e) : e.fits := by
  have h3 := h.n3; have g3 := h.g3; have i2 := h.i2
  refine ⟨fun x hx => ?_, fun x hx => by have := (h.it x hx).name; unfold maxLen; omega, by omega, by omega, by omega⟩
  obtain ⟨i, hi⟩ := List.getElem?_of_mem hx
  exact ⟨sndE_fits (h.snd i x hi), sndE_small (h.snd i x hi)⟩
abbrev backup : List UInt8 := [98, 97, 99, 107, 117, 112]
abbrev deed : List UInt8 := [100, 101, 101, 100]
theorem word_ok (s : DS) : named (wordOf s [backup, deed]) = true := by
  have h := s.val_in (n := 2) (by omega)
  unfold wordOf
  have : s.val (([backup, deed] : List (List UInt8)).length : Nat) = 0 ∨ s.val (([backup, deed] : List (List UInt8)).length : Nat) = 1 := by show s.val 2 = 0 ∨ s.val 2 = 1; omega
  rcases this with h | h <;> rw [h] <;> decide
theorem its_snoc {l : List Itm} {y : Itm} (h : ∀ x ∈ l, ItmS x) (hy : ItmS y) : ∀ x ∈ l ++ [y], ItmS x := by
  intro x hx
  rcases List.mem_append.1 hx with hx | hx
  · exact h x hx
  · simp at hx; subst hx; exact hy

theorem w_SoundS {b : Nat} {s : DS}  : FunM Tryz.prog 13 [ptr b 0] (Cp.ex fun e : Est => fact (SndSt e) (agg (rowSt e))) (diceS b s) (fun _ => diceEx 101 b) := by
 refine FunM.of Tryz.func13 rfl rfl (by exact Nat.le_of_ble_eq_true rfl) fun M0 w0 S rs M1 w1 => ?_
 have hv2 := s.val_in (n := 2) (by omega)
 have hnl : (nameL.take (2 + s.val 2).toNat).length = (2 + s.val 2).toNat := by rw [List.length_take]; show min _ 3 = _; omega
 refine Tr.seq (Tr.regT ?_)
 refine TO.alloc rfl rfl (by decide) rfl z41 zo41 (fun b1 => ?_)
 refine TO.nil (Fin.go (Tr.seq (Tr.regT ?_)))
 refine TO.alloc rfl rfl (by decide) rfl z41 zo41 (fun b2 => ?_)
 refine TO.nil (Fin.go (Tr.seq (Tr.regT (tp rfl (ok_buildSlice (xs := [.const (.string ⟨[97, 112, 112].toArray⟩), .const (.string ⟨[100, 98].toArray⟩), .const (.string ⟨[119, 101, 98].toArray⟩)]) (rows := [[_], [_], [_]]) rfl rfl Tryz.underlying74 sz9 z9 rfl (by decide) ⟨⟨(by exact rfl), (VL.le (vl rfl) (one_cellsP _))⟩, ⟨⟨(by exact rfl), (VL.le (vl rfl) (one_cellsP _))⟩, ⟨⟨(by exact rfl), (VL.le (vl rfl) (one_cellsP _))⟩, trivial⟩⟩⟩ (by decide)) ?_))))
 refine tm rfl (TO.efc 2 rfl rfl (by decide) (ef_callc rfl rfl (by decide) rfl (w_DNext (by omega) (by omega)) ⟨ke rfl, ke rfl, trivial⟩) ?_)
 refine tp rfl (ok_add rfl (vl rfl) (vl rfl) ?hin) ?_; case hin => unfold InI; omega
 refine tp rfl (ok_sliceTo rfl Tryz.underlying74 sz9 ⟨_, rfl, full_le _ _⟩ (vl rfl) (by omega) (by simp; omega)) ?_
 refine tm rfl (TO.nil (Fin.go (Tr.seq (Tr.seq (Tr.reg0 (cm rfl (co rfl (ok_len rfl Tryz.underlying74 (vl rfl)) (cm rfl (Ch.nil (Fin.go (Tr.block ?_)))))))))))
 refine Tr.re 16 rfl (Pr.le_of_eq (by show slice 1 (List.take _ (nameL.map fun t => [str t])) = _; rw [← List.map_take]) : Pr.le _ (txts (nameL.take (2 + s.val 2).toNat))) ?_
 refine Tr.re 17 rfl (int_eq (by simp; rfl) : Pr.le _ (int (((nameL.take (2 + s.val 2).toNat).length : Nat) : Int))) ?_
 refine Tr.reC 0 [andIs (.slice none 0 0) (slice 9 (([] : List Ept).map rowEp)), is (.slice none 0 0), is (.slice none 0 0)] rfl ⟨own_nil rfl, Pr.le_refl _, Pr.le_refl _, trivial⟩ (Tr.addnil 32 9 (Tr.loopD3V1 [(0, _), (2, _), (3, _), (4, _), (16, _), (17, _)] ⟨ke rfl, ke rfl, ke rfl, ke rfl, ke rfl, ke rfl, trivial⟩ (fun (k : Nat) (es : List Ept) (s2 : DS) v => [(18, int ((k : Nat) : Int))]) (fun (k : Nat) (es : List Ept) (s2 : DS) v => Hp M0 w0 S (appRes 32 9 v :: cellsRes true b2 41 [andIs v (slice 9 (es.map rowEp)), is (.slice none 0 0), is (.slice none 0 0)] :: cellsRes true b1 41 (([.slice none 0 0, .slice none 0 0, .slice none 0 0] : List Value).map is) :: diceS b s2 :: extRes M1 w1 :: rs)) (fun (k : Nat) (es : List Ept) (s2 : DS) => k ≤ (2 + s.val 2).toNat ∧ es.length = k ∧ SndL es) (fun (k : Nat) (es : List Ept) (s2 : DS) => (2 + s.val 2).toNat - k) (0) ([]) (_) (.slice none 0 0) (⟨by omega, rfl, fun i e h => by simp at h⟩) ⟨ke rfl, trivial⟩ (fun _ _ h => h) ?_))
 rintro k es s2 v ⟨hk1, hk2, hk3⟩
 refine Tr.seq (Tr.reg0 (co rfl (ki rfl rfl rfl rfl) (Ch.nil (Fin.go (Tr.seq ?_)))))
 refine Tr.cn rfl ?_ ?_ <;> intro h1 q1
 have hkn : k < (2 + s.val 2).toNat := by have := Nrm.nrm h1; rw [hnl] at this; omega
 obtain ⟨nm, hnm⟩ := at_ (l := nameL.take (2 + s.val 2).toNat) (k := k) (by omega)
 have hnm2 : nameL[k]? = some nm := take_get hnm
 have hso := sopt_len (s2.adv.val 3)
 have hk3_ : k < 3 := lt_of_at hnm2
 have hvs := s2.adv.val_in (n := 3) (by omega)
 have hof := of_334 s2
 refine Tr.skip (Fin.go (Tr.seq (Tr.block (Tr.seq (Tr.reg0 (cm rfl (co rfl (ok_indexAddr rfl Tryz.underlying74 sz9 (vl rfl) (vl rfl) (by omega) (row_at hnm)) (co rfl (kl1 rfl one9 rfl) (cm rfl (cm rfl (Ch.nil (Fin.go (Tr.seq (Tr.pad ?_))))))))))))))
 refine Tr.regX mixed [none, none, none, some (0, 4, true, 0), none, none, none, none, none, some (0, 4, true, 0), none, none, none, some (0, 4, true, 0), none, none, none, some (0, 4, true, 0), none, some (0, 0, true, 7), some (7, 0, true, 7)] (by kernel_rfl) (xm rfl (xm rfl (xo rfl (fun _ => ok_buildSlice (xs := [.const (.int .i64 (3)), .const (.int .i64 (3)), .const (.int .i64 (4))]) (rows := [[_], [_], [_]]) rfl rfl Tryz.underlying22 sz3 z3 rfl (by decide) ⟨⟨(by exact rfl), (VL.le (vl rfl) (one_cellsP _))⟩, ⟨⟨(by exact rfl), (VL.le (vl rfl) (one_cellsP _))⟩, ⟨⟨(by exact rfl), (VL.le (vl rfl) (one_cellsP _))⟩, trivial⟩⟩⟩ (by decide)) ?_)))
 refine Cx.ef 4 rfl rfl (by decide) (ef_callc rfl rfl (by decide) rfl (w_DOf (l := [3, 3, 4]) (by simp) (by simp)) ⟨ke rfl, ⟨_, rfl, full_le _ _⟩, trivial⟩) ?_
 refine xo rfl (fun _ => ok_buildSlice (xs := [.const (.int .i64 (10)), .const (.int .i64 (8)), .const (.int .i64 (2))]) (rows := [[_], [_], [_]]) rfl rfl Tryz.underlying22 sz3 z3 rfl (by decide) ⟨⟨(by exact rfl), (VL.le (vl rfl) (one_cellsP _))⟩, ⟨⟨(by exact rfl), (VL.le (vl rfl) (one_cellsP _))⟩, ⟨⟨(by exact rfl), (VL.le (vl rfl) (one_cellsP _))⟩, trivial⟩⟩⟩ (by decide)) ?_
 refine xo rfl (fun _ => ok_buildSlice (xs := [.const (.int .i64 (8)), .const (.int .i64 (2))]) (rows := [[_], [_]]) rfl rfl Tryz.underlying22 sz3 z3 rfl (by decide) ⟨⟨(by exact rfl), (VL.le (vl rfl) (one_cellsP _))⟩, ⟨⟨(by exact rfl), (VL.le (vl rfl) (one_cellsP _))⟩, trivial⟩⟩ (by decide)) ?_
 refine xo rfl (fun _ => ok_buildSlice (xs := [.const (.int .i64 (2)), .const (.int .i64 (10)), .const (.int .i64 (8)), .const (.int .i64 (3))]) (rows := [[_], [_], [_], [_]]) rfl rfl Tryz.underlying22 sz3 z3 rfl (by decide) ⟨⟨(by exact rfl), (VL.le (vl rfl) (one_cellsP _))⟩, ⟨⟨(by exact rfl), (VL.le (vl rfl) (one_cellsP _))⟩, ⟨⟨(by exact rfl), (VL.le (vl rfl) (one_cellsP _))⟩, ⟨⟨(by exact rfl), (VL.le (vl rfl) (one_cellsP _))⟩, trivial⟩⟩⟩⟩ (by decide)) ?_
 refine xo rfl (fun _ => ok_buildSlice (xs := [.tmp 27, .tmp 28, .tmp 29]) (rows := [[_], [_], [_]]) rfl rfl Tryz.underlying102 sz22 z22 rfl (by decide) ⟨⟨(by exact rfl), ⟨_, rfl, Pr.le_trans (full_le _ _) (one_cellsP _)⟩⟩, ⟨⟨(by exact rfl), ⟨_, rfl, Pr.le_trans (full_le _ _) (one_cellsP _)⟩⟩, ⟨⟨(by exact rfl), ⟨_, rfl, Pr.le_trans (full_le _ _) (one_cellsP _)⟩⟩, trivial⟩⟩⟩ (by decide)) ?_
 refine xm rfl (Cx.ef 4 rfl rfl (by decide) (ef_callc rfl rfl (by decide) rfl (w_DNext (by omega) (by omega)) ⟨ke rfl, ke rfl, trivial⟩) ?_)
 refine xo rfl (fun _ => ok_indexAddr rfl Tryz.underlying102 sz22 ⟨_, rfl, full_le _ _⟩ (vl rfl) (by omega) (show (optS.map fun l => [ints l])[_]? = _ from sopt_at hvs)) ?_
 refine xo rfl (fun _ => kl1 rfl one22 rfl) (xm rfl (Cx.ef 4 rfl rfl (by decide) (ef_callc rfl rfl (by decide) rfl (w_DOne (by omega) (by omega)) ⟨ke rfl, ke rfl, trivial⟩) (xo rfl (fun _ => ok_buildSlice (xs := [.const (.int .i64 (1))]) (rows := [[_]]) rfl rfl Tryz.underlying22 sz3 z3 rfl (by decide) ⟨⟨(by exact rfl), (VL.le (vl rfl) (one_cellsP _))⟩, trivial⟩ (by decide)) ?_)))
 refine xo rfl (fun _ => ok_buildSlice (xs := [.const (.int .i64 (2)), .const (.int .i64 (3))]) (rows := [[_], [_]]) rfl rfl Tryz.underlying22 sz3 z3 rfl (by decide) ⟨⟨(by exact rfl), (VL.le (vl rfl) (one_cellsP _))⟩, ⟨⟨(by exact rfl), (VL.le (vl rfl) (one_cellsP _))⟩, trivial⟩⟩ (by decide)) ?_
 refine xm rfl (Cx.ef 4 rfl rfl (by decide) (ef_callc rfl rfl (by decide) rfl (w_DOne (by omega) (by omega)) ⟨ke rfl, ke rfl, trivial⟩) (xo rfl (fun _ => ok_build (rows := [(0, [_]), (1, [_]), (2, [_]), (3, [_]), (4, [_]), (6, [_]), (7, [_]), (8, [_])]) rfl bl32 zo32 ⟨⟨rfl, (VL.le (vl rfl) (one_cellsP _))⟩, ⟨⟨rfl, (VL.le (vl rfl) (one_cellsP _))⟩, ⟨⟨rfl, (VL.le (vl rfl) (one_cellsP _))⟩, ⟨⟨rfl, (VL.le (vl rfl) (one_cellsP _))⟩, ⟨⟨rfl, (VL.le (vl rfl) (one_cellsP _))⟩, ⟨⟨rfl, ⟨_, rfl, Pr.le_trans (full_le _ _) (one_cellsP _)⟩⟩, ⟨⟨rfl, ⟨_, rfl, Pr.le_trans (full_le _ _) (one_cellsP _)⟩⟩, ⟨⟨rfl, (VL.le (vl rfl) (one_cellsP _))⟩, trivial⟩⟩⟩⟩⟩⟩⟩⟩ rfl) (Cx.ef 0 rfl rfl (by decide) (ef_allocX rfl rfl (by decide) rfl z32 zo32) (Cx.ef0 0 rfl rfl (ef_storeX rfl rfl rfl rfl (VL.le (vl rfl) (agg_cellsP _)) sz32 rfl rfl) ?_))))
 refine Cx.nil ⟨rfl, ?_⟩
 refine FinX.open_ 0 7 rfl rfl (fun v1 => ?_)
 refine FinX.done (AllC.cons (AllC.cons (AllC.cons (AllC.cons (AllC.cons (AllC.cons (AllC.map _))))))) (Fin.opn 7 0 _ rfl rfl (fun _ => rfl) (fun b3 => ?_))
 refine Fin.go (wk10 0 2 3 4 5 6 7 16 17 18 rfl (Tr.seq (Tr.seq (Tr.reC 0 [str nm, int 1, int (s2.of [3, 3, 4]), ints (sOpt (s2.adv.val 3)), bool (s2.adv.adv.val 2 == 2 - 1), is (.slice none 0 0), ints [1], ints [2, 3], bool (s2.adv.adv.adv.val 3 == 3 - 1)] rfl ⟨Pr.le_refl _, Pr.le_refl _, Pr.le_refl _, Pr.le_refl _, Pr.le_refl _, Pr.le_refl _, Pr.le_refl _, Pr.le_refl _, Pr.le_refl _, trivial⟩ (Tr.reg0 (co rfl (okp_fieldAddr rfl fo32_2 (vl rfl)) (co rfl (ok_rd 0 rfl (rd_load1 rfl one3 (vl rfl) rfl)) (co rfl (ki rfl rfl rfl rfl) (Ch.nil (Fin.go ?_))))))))))
 refine Tr.cn rfl ?_ ?_ <;> intro h2 q2
 refine Tr.regT (tp rfl (ok_buildSlice (xs := [.const (.int .i64 (14))]) (rows := [[_]]) rfl rfl Tryz.underlying22 sz3 z3 rfl (by decide) ⟨⟨(by exact rfl), (VL.le (vl rfl) (one_cellsP _))⟩, trivial⟩ (by decide)) ?_)
 refine tp rfl (okp_fieldAddr rfl fo32_3 (vl rfl)) (TO.rd 0 rfl rfl rfl (by decide) (rd_load1 rfl one22 (vl rfl) rfl) (TO.pad ?_))
 refine TO.efs 0 rfl rfl (by decide) (ef_append rfl rfl (by decide) rfl Tryz.underlying22 sz3 by3 z3 rfl (by decide) ⟨_, rfl, full_le _ _⟩ (vl rfl) (by simp only [List.length_append, List.length_cons, List.length_nil, List.length_map]; unfold maxLen; omega) (by simp only [List.length_append, List.length_cons, List.length_nil, List.length_map]; omega) (appR_full (by exact List.Mem.head _) (vl rfl))) (fun v2 => ?_)
 refine tp rfl (okp_fieldAddr rfl fo32_3 (vl rfl)) (TO.ef0 1 rfl rfl (ef_store rfl rfl (vl rfl) (VL.le (vl rfl) (one_cellsP _)) sz22 rfl (by exact Nat.le_of_ble_eq_true rfl) rfl) (TO.nil (Fin.go (wk10 0 2 3 4 5 6 7 16 17 18 rfl (Tr.seq (Tr.regT (tm rfl (tp rfl (ok_call rfl (w_RSA) trivial) (tm rfl ?_)))))))))
 refine tp rfl (ok_add rfl (vl rfl) (vl rfl) ?hin) ?_; case hin => unfold InI; omega
 refine tp rfl (ok_call rfl (w_Leaf (name := nm) (a := 5) (b := 2048) (id := 100 + (k : Nat)) (to := 901) (key := 1) (leaf_ok hnm2 (by omega) (by omega)) (leaf_tiny (by omega)) (by omega)) ⟨ke rfl, ke rfl, ke rfl, ke rfl, ke rfl, trivial⟩) ?_
 refine TO.ex 54 rfl (fun z54 => TO.fact 54 rfl fun hz54 => ?_)
 refine tp rfl (ok_buildSlice (xs := [.tmp 54]) (rows := [_]) rfl rfl Tryz.underlying30 sz27 z27 rfl (by decide) ⟨⟨(by exact rfl), (VL.le (vl rfl) (agg_cellsP _))⟩, trivial⟩ (by decide)) ?_
 refine tp rfl (okp_fieldAddr rfl fo32_5 (vl rfl)) (TO.ef0 1 rfl rfl (ef_store rfl rfl (vl rfl) (VL.le (vl rfl) (one_cellsP _)) sz30 rfl (by exact Nat.le_of_ble_eq_true rfl) rfl) (TO.nil (Fin.go (wk8 0 2 3 4 7 16 17 18 rfl (Tr.regT (tp rfl (okp_fieldAddr rfl fo41_0 (vl rfl)) (TO.rd 3 rfl rfl rfl (by decide) (rd_load1 rfl one37 (vl rfl) rfl) (TO.rd 1 rfl rfl rfl (by decide) (rd_loadA rfl agg32 sz32 (vl rfl) rfl rfl) (tp rfl (ok_buildSlice (xs := [.tmp 59]) (rows := [rowEp (⟨nm, 1, s2.of [3, 3, 4], 14 :: sOpt (s2.adv.val 3), (s2.adv.adv.val 2 == 2 - 1), [leafI nm 5 2048 (100 + (k : Nat)) 901 1 z54], [1], [2, 3], (s2.adv.adv.adv.val 3 == 3 - 1)⟩ : Ept)]) rfl rfl Tryz.underlying37 sz32 z32 rfl (by decide) ⟨⟨(by exact rfl), VL.le (vl rfl) (Pr.le_trans (agg_le (qs := rowEp (⟨nm, 1, s2.of [3, 3, 4], 14 :: sOpt (s2.adv.val 3), (s2.adv.adv.val 2 == 2 - 1), [leafI nm 5 2048 (100 + (k : Nat)) 901 1 z54], [1], [2, 3], (s2.adv.adv.adv.val 3 == 3 - 1)⟩ : Ept)) ⟨Pr.le_refl _, Pr.le_refl _, Pr.le_refl _, Pr.le_trans (andIs_le _ _) (Pr.le_of_eq rfl), Pr.le_refl _, full_le _ _, Pr.le_refl _, Pr.le_refl _, Pr.le_refl _, trivial⟩) (agg_cellsP _))⟩, trivial⟩ (by decide)) ?_)))))))))
 refine TO.efs 2 rfl rfl (by decide) (ef_append rfl rfl (by decide) rfl Tryz.underlying37 sz32 by32 z32 rfl (by decide) ⟨_, rfl, andIs_le _ _⟩ ⟨_, rfl, full_le _ _⟩ (by simp only [List.length_append, List.length_cons, List.length_nil, List.length_map]; unfold maxLen; omega) (by simp only [List.length_append, List.length_cons, List.length_nil, List.length_map]; omega) (appR_is (by exact List.Mem.head _) ⟨_, rfl, andIs_is _ _⟩)) (fun v3 => ?_)
 refine tp rfl (okp_fieldAddr rfl fo41_0 (vl rfl)) (TO.ef0 3 rfl rfl (ef_store rfl rfl (vl rfl) (VL.le (vl rfl) (one_cellsP _)) sz37 rfl (by exact Nat.le_of_ble_eq_true rfl) rfl) (TO.nil (Fin.block (Fin.go (Tr.drop 1 (wk7 0 2 3 4 16 17 18 rfl (Tr.reg0 (cad rfl rfl rfl rfl (by omega) (cm rfl (Ch.nil ?_))))))))))
 refine Fin.reC 2 [andIs v3 (slice 9 ((es ++ [(⟨nm, 1, s2.of [3, 3, 4], 14 :: sOpt (s2.adv.val 3), (s2.adv.adv.val 2 == 2 - 1), [leafI nm 5 2048 (100 + (k : Nat)) 901 1 z54], [1], [2, 3], (s2.adv.adv.adv.val 3 == 3 - 1)⟩ : Ept)]).map rowEp)), is (.slice none 0 0), is (.slice none 0 0)] rfl ⟨own_le (by rw [List.map_append]; rfl), Pr.le_refl _, Pr.le_refl _, trivial⟩ ?_
 refine Fin.drop 0 ?_
 exact Fin.famD3V1 (k + 1) (es ++ [(⟨nm, 1, s2.of [3, 3, 4], 14 :: sOpt (s2.adv.val 3), (s2.adv.adv.val 2 == 2 - 1), [leafI nm 5 2048 (100 + (k : Nat)) 901 1 z54], [1], [2, 3], (s2.adv.adv.adv.val 3 == 3 - 1)⟩ : Ept)]) (_) v3 (⟨⟨by omega, by rw [List.length_append, hk2]; rfl, snd_snoc hk3 ⟨by rw [hk2]; exact hnm2, rfl, hof, .inr ⟨_, sopt_mem hvs, rfl⟩, ⟨z54, hz54, by rw [hk2]⟩, rfl, rfl⟩⟩, by omega⟩) ⟨⟨_, rfl, int_succ k⟩, ke rfl, ke rfl, ke rfl, ke rfl, ke rfl, ke rfl, trivial⟩ (fun _ _ h => h)
 refine Tr.skip (Fin.go (Tr.seq (Tr.regT (tm rfl (tp rfl (ok_call rfl (w_RSA) trivial) (tm rfl ?_))))))
 refine tp rfl (ok_add rfl (vl rfl) (vl rfl) ?hin) ?_; case hin => unfold InI; omega
 refine tp rfl (ok_call rfl (w_Leaf (name := nm) (a := 5) (b := 2048) (id := 100 + (k : Nat)) (to := 901) (key := 1) (leaf_ok hnm2 (by omega) (by omega)) (leaf_tiny (by omega)) (by omega)) ⟨ke rfl, ke rfl, ke rfl, ke rfl, ke rfl, trivial⟩) ?_
 refine TO.ex 54 rfl (fun z54 => TO.fact 54 rfl fun hz54 => ?_)
 refine tp rfl (ok_buildSlice (xs := [.tmp 54]) (rows := [_]) rfl rfl Tryz.underlying30 sz27 z27 rfl (by decide) ⟨⟨(by exact rfl), (VL.le (vl rfl) (agg_cellsP _))⟩, trivial⟩ (by decide)) ?_
 refine tp rfl (okp_fieldAddr rfl fo32_5 (vl rfl)) (TO.ef0 0 rfl rfl (ef_store rfl rfl (vl rfl) (VL.le (vl rfl) (one_cellsP _)) sz30 rfl (by exact Nat.le_of_ble_eq_true rfl) rfl) (TO.nil (Fin.go (wk8 0 2 3 4 7 16 17 18 rfl (Tr.regT (tp rfl (okp_fieldAddr rfl fo41_0 (vl rfl)) (TO.rd 2 rfl rfl rfl (by decide) (rd_load1 rfl one37 (vl rfl) rfl) (TO.rd 0 rfl rfl rfl (by decide) (rd_loadA rfl agg32 sz32 (vl rfl) rfl rfl) (tp rfl (ok_buildSlice (xs := [.tmp 59]) (rows := [rowEp (⟨nm, 1, s2.of [3, 3, 4], sOpt (s2.adv.val 3), (s2.adv.adv.val 2 == 2 - 1), [leafI nm 5 2048 (100 + (k : Nat)) 901 1 z54], [1], [2, 3], (s2.adv.adv.adv.val 3 == 3 - 1)⟩ : Ept)]) rfl rfl Tryz.underlying37 sz32 z32 rfl (by decide) ⟨⟨(by exact rfl), VL.le (vl rfl) (Pr.le_trans (agg_le (qs := rowEp (⟨nm, 1, s2.of [3, 3, 4], sOpt (s2.adv.val 3), (s2.adv.adv.val 2 == 2 - 1), [leafI nm 5 2048 (100 + (k : Nat)) 901 1 z54], [1], [2, 3], (s2.adv.adv.adv.val 3 == 3 - 1)⟩ : Ept)) ⟨Pr.le_refl _, Pr.le_refl _, Pr.le_refl _, Pr.le_refl _, Pr.le_refl _, full_le _ _, Pr.le_refl _, Pr.le_refl _, Pr.le_refl _, trivial⟩) (agg_cellsP _))⟩, trivial⟩ (by decide)) ?_)))))))))
 refine TO.efs 1 rfl rfl (by decide) (ef_append rfl rfl (by decide) rfl Tryz.underlying37 sz32 by32 z32 rfl (by decide) ⟨_, rfl, andIs_le _ _⟩ ⟨_, rfl, full_le _ _⟩ (by simp only [List.length_append, List.length_cons, List.length_nil, List.length_map]; unfold maxLen; omega) (by simp only [List.length_append, List.length_cons, List.length_nil, List.length_map]; omega) (appR_is (by exact List.Mem.head _) ⟨_, rfl, andIs_is _ _⟩)) (fun v4 => ?_)
 refine tp rfl (okp_fieldAddr rfl fo41_0 (vl rfl)) (TO.ef0 2 rfl rfl (ef_store rfl rfl (vl rfl) (VL.le (vl rfl) (one_cellsP _)) sz37 rfl (by exact Nat.le_of_ble_eq_true rfl) rfl) (TO.nil (Fin.block (Fin.go (Tr.drop 0 (wk7 0 2 3 4 16 17 18 rfl (Tr.reg0 (cad rfl rfl rfl rfl (by omega) (cm rfl (Ch.nil ?_))))))))))
 refine Fin.reC 1 [andIs v4 (slice 9 ((es ++ [(⟨nm, 1, s2.of [3, 3, 4], sOpt (s2.adv.val 3), (s2.adv.adv.val 2 == 2 - 1), [leafI nm 5 2048 (100 + (k : Nat)) 901 1 z54], [1], [2, 3], (s2.adv.adv.adv.val 3 == 3 - 1)⟩ : Ept)]).map rowEp)), is (.slice none 0 0), is (.slice none 0 0)] rfl ⟨own_le (by rw [List.map_append]; rfl), Pr.le_refl _, Pr.le_refl _, trivial⟩ ?_
 exact Fin.famD3V1 (k + 1) (es ++ [(⟨nm, 1, s2.of [3, 3, 4], sOpt (s2.adv.val 3), (s2.adv.adv.val 2 == 2 - 1), [leafI nm 5 2048 (100 + (k : Nat)) 901 1 z54], [1], [2, 3], (s2.adv.adv.adv.val 3 == 3 - 1)⟩ : Ept)]) (_) v4 (⟨⟨by omega, by rw [List.length_append, hk2]; rfl, snd_snoc hk3 ⟨by rw [hk2]; exact hnm2, rfl, hof, .inl (sopt_mem hvs), ⟨z54, hz54, by rw [hk2]⟩, rfl, rfl⟩⟩, by omega⟩) ⟨⟨_, rfl, int_succ k⟩, ke rfl, ke rfl, ke rfl, ke rfl, ke rfl, ke rfl, trivial⟩ (fun _ _ h => h)
 have hke : k = (2 + s.val 2).toNat := by have := Nrm.nrm h1; rw [hnl] at this; omega
 refine Tr.exit (Fin.then_exit (Fin.then_exit (Fin.block_here (Fin.go (Tr.seq (Tr.seq (Tr.reC 1 [slice 9 (es.map rowEp), is (.slice none 0 0), is (.slice none 0 0)] rfl ⟨andIs_le _ _, Pr.le_refl _, Pr.le_refl _, trivial⟩ (Tr.drop 0 (Tr.reg0 (cm rfl (co rfl (ok_len rfl Tryz.underlying74 (vl rfl)) (cm rfl (Ch.nil (Fin.go ?_))))))))))))))
 refine Tr.block ?_
 refine Tr.re 65 rfl (int_eq (by simp; rfl) : Pr.le _ (int (((nameL.take (2 + s.val 2).toNat).length : Nat) : Int))) ?_
 refine Tr.reC 0 [slice 9 (es.map rowEp), andIs (.slice none 0 0) (edgs []), is (.slice none 0 0)] rfl ⟨Pr.le_refl _, own_nil rfl, Pr.le_refl _, trivial⟩ (Tr.addnil 80 2 (Tr.loopD3V1 [(0, _), (2, _), (3, _), (4, _), (65, _)] ⟨ke rfl, ke rfl, ke rfl, ke rfl, ke rfl, trivial⟩ (fun (i : Nat) (gs : List Edg) (s3 : DS) w => [(66, int ((i : Nat) : Int))]) (fun (i : Nat) (gs : List Edg) (s3 : DS) w => Hp M0 w0 S (appRes 80 2 w :: cellsRes true b2 41 [slice 9 (es.map rowEp), andIs w (edgs gs), is (.slice none 0 0)] :: cellsRes true b1 41 (([.slice none 0 0, .slice none 0 0, .slice none 0 0] : List Value).map is) :: diceS b s3 :: extRes M1 w1 :: rs)) (fun (i : Nat) (gs : List Edg) (s3 : DS) => i ≤ (2 + s.val 2).toNat ∧ gs.length ≤ 3 ∧ EdI (2 + s.val 2).toNat i 0 gs) (fun (i : Nat) (gs : List Edg) (s3 : DS) => (2 + s.val 2).toNat - i) (0) ([]) (_) (.slice none 0 0) (⟨by omega, by simp, EdI.nil _ _ _⟩) ⟨ke rfl, trivial⟩ (fun _ _ h => h) ?_))
 rintro i gs s3 w ⟨hi1, hi2, hi3⟩
 refine Tr.seq (Tr.reg0 (co rfl (ki rfl rfl rfl rfl) (Ch.nil (Fin.go (Tr.seq ?_)))))
 refine Tr.cn rfl ?_ ?_ <;> intro h3 q3
 have hin : i < (2 + s.val 2).toNat := by have := Nrm.nrm h3; rw [hnl] at this; omega
 refine Tr.skip (Fin.go (Tr.seq (Tr.block (Tr.seq (Tr.reg0 (cm rfl (cm rfl (Ch.nil (Fin.go (Tr.seq (Tr.reg0 (cm rfl (co rfl (ok_len rfl Tryz.underlying74 (vl rfl)) ?_)))))))))))))
 refine cm rfl (Ch.nil (Fin.go (Tr.block ?_)))
 refine Tr.re 70 rfl (int_eq (by simp; rfl) : Pr.le _ (int (((nameL.take (2 + s.val 2).toNat).length : Nat) : Int))) ?_
 refine Tr.loopD3V1 [(0, _), (2, _), (3, _), (4, _), (8, _), (65, _), (66, _), (70, _)] ⟨ke rfl, ke rfl, ke rfl, ke rfl, ke rfl, ke rfl, ke rfl, ke rfl, trivial⟩ (fun (j : Nat) (gs3 : List Edg) (s4 : DS) u => [(71, int ((j : Nat) : Int))]) (fun (j : Nat) (gs3 : List Edg) (s4 : DS) u => Hp M0 w0 S (appRes 80 2 u :: cellsRes true b2 41 [slice 9 (es.map rowEp), andIs u (edgs gs3), is (.slice none 0 0)] :: cellsRes true b1 41 (([.slice none 0 0, .slice none 0 0, .slice none 0 0] : List Value).map is) :: diceS b s4 :: extRes M1 w1 :: rs)) (fun (j : Nat) (gs3 : List Edg) (s4 : DS) => j ≤ (2 + s.val 2).toNat ∧ gs3.length ≤ 3 ∧ EdI (2 + s.val 2).toNat i j gs3) (fun (j : Nat) (gs3 : List Edg) (s4 : DS) => (2 + s.val 2).toNat - j) (0) (gs) (_) w (⟨by omega, hi2, hi3⟩) ⟨ke rfl, trivial⟩ (fun _ _ h => h) ?_
 rintro j gs3 s4 u ⟨hj1, hj2, hj3⟩
 refine Tr.seq (Tr.reg0 (co rfl (ki rfl rfl rfl rfl) (Ch.nil (Fin.go (Tr.seq ?_)))))
 refine Tr.cn rfl ?_ ?_ <;> intro h4 q4
 have hjn : j < (2 + s.val 2).toNat := by have := Nrm.nrm h4; rw [hnl] at this; omega
 refine Tr.skip (Fin.go (Tr.seq (Tr.block (Tr.seq (Tr.reg0 (cm rfl (cm rfl (Ch.nil (Fin.go (Tr.seq (Tr.regT (tm rfl (tm rfl ?_)))))))))))))
 refine tp rfl (ki rfl rfl rfl rfl) (tm rfl ?_)
 refine TO.cases 77 rfl (fun h5 => ?_) (fun h5 => ?_)
 have q5 := Nrm.nrm h5
 refine TO.opG rfl rfl rfl h5 rfl (by decide) (ok_move rfl (vl rfl)) (TO.efcG 3 rfl rfl rfl h5 rfl rfl (by decide) (ef_callc rfl rfl (by decide) rfl (w_DNext (by omega) (by omega)) ⟨ke rfl, ke rfl, trivial⟩) (TO.opG rfl rfl rfl h5 rfl (by decide) (ki rfl rfl rfl rfl) (tp rfl (kpt rfl rfl h5 rfl) (tm rfl ?_))))
 refine TO.cases 82 rfl (fun h6 => ?_) (fun h6 => ?_)
 have q6 := Nrm.nrm h6
 refine TO.opG rfl rfl rfl h6 rfl (by decide) (okp_fieldAddr rfl fo41_1 (vl rfl)) (TO.opG rfl rfl rfl h6 rfl (by decide) (ok_rd 1 rfl (rd_load1 rfl one38 (vl rfl) rfl)) (TO.opG rfl rfl rfl h6 rfl (by decide) (ok_lenm rfl Tryz.underlying38 ⟨_, rfl, andIs_le _ _⟩) (TO.opG rfl rfl rfl h6 rfl (by decide) (ki rfl rfl rfl rfl) (tp rfl (kpt rfl rfl h6 rfl) (TO.nil (Fin.go (wk11 0 2 3 4 8 9 65 66 70 71 87 rfl ?_)))))))
 refine Tr.cn rfl ?_ ?_ <;> intro h7 q7
 refine Tr.regT (tp rfl (okp_fieldAddr rfl fo41_1 (vl rfl)) (TO.rd 1 rfl rfl rfl (by decide) (rd_load1 rfl one38 (vl rfl) rfl) (tm rfl (tm rfl (tp rfl (ok_build (rows := [(0, [_]), (1, [_])]) rfl bl80 zo80 ⟨⟨rfl, (VL.le (vl rfl) (one_cellsP _))⟩, ⟨⟨rfl, (VL.le (vl rfl) (one_cellsP _))⟩, trivial⟩⟩ rfl) (tp rfl (ok_buildSlice (xs := [.tmp 92]) (rows := [_]) rfl rfl Tryz.underlying38 sz80 z80 rfl (by decide) ⟨⟨(by exact rfl), (VL.le (vl rfl) (agg_cellsP _))⟩, trivial⟩ (by decide)) ?_))))))
 refine TO.efs 0 rfl rfl (by decide) (ef_append rfl rfl (by decide) rfl Tryz.underlying38 sz80 by80 z80 rfl (by decide) ⟨_, rfl, andIs_le _ _⟩ ⟨_, rfl, full_le _ _⟩ (by simp only [List.length_append, List.length_cons, List.length_nil, List.length_map]; unfold maxLen; omega) (by simp only [List.length_append, List.length_cons, List.length_nil, List.length_map]; omega) (appR_is (by exact List.Mem.head _) ⟨_, rfl, andIs_is _ _⟩)) (fun v5 => ?_)
 refine tp rfl (okp_fieldAddr rfl fo41_1 (vl rfl)) (TO.ef0 1 rfl rfl (ef_store rfl rfl (vl rfl) (VL.le (vl rfl) (one_cellsP _)) sz38 rfl (by exact Nat.le_of_ble_eq_true rfl) rfl) (TO.nil (Fin.block (Fin.go (wk9 0 2 3 4 8 65 66 70 71 rfl (Tr.reg0 (cad rfl rfl rfl rfl (by omega) (cm rfl (Ch.nil ?_)))))))))
 refine Fin.reC 1 [slice 9 (es.map rowEp), andIs v5 (edgs (gs3 ++ [(⟨((i : Nat) : Int), ((j : Nat) : Int)⟩ : Edg)])), is (.slice none 0 0)] rfl ⟨Pr.le_refl _, own_le (by rw [List.map_append]; rfl), Pr.le_refl _, trivial⟩ ?_
 exact Fin.famD3V1 (j + 1) (gs3 ++ [(⟨((i : Nat) : Int), ((j : Nat) : Int)⟩ : Edg)]) (_) v5 (⟨⟨by omega, by simp; omega, hj3.snoc ⟨by omega, by omega⟩ ⟨by omega, by omega⟩ (by omega)⟩, by omega⟩) ⟨⟨_, rfl, int_succ j⟩, ke rfl, ke rfl, ke rfl, ke rfl, ke rfl, ke rfl, ke rfl, ke rfl, trivial⟩ (fun _ _ h => h)
 refine Tr.skip (Fin.block (Fin.go (Tr.reg0 (cad rfl rfl rfl rfl (by omega) (cm rfl (Ch.nil (Fin.famD3V1 (j + 1) (gs3) (_) u (⟨⟨by omega, hj2, hj3.step⟩, by omega⟩) ⟨⟨_, rfl, int_succ j⟩, ke rfl, ke rfl, ke rfl, ke rfl, ke rfl, ke rfl, ke rfl, ke rfl, trivial⟩ (fun _ _ h => h))))))))
 have q6 := Nrm.nrm h6
 iterate 4 refine TO.noG rfl rfl rfl (ne_true h6) rfl (by decide) ?_
 refine tp rfl (kpf rfl rfl h6 rfl) (TO.nil (Fin.go (wk11 0 2 3 4 8 9 65 66 70 71 87 rfl (Tr.cond rfl (fun h => nomatch h) (fun _ => ?_)))))
 refine Tr.skip (Fin.block (Fin.go (Tr.reg0 (cad rfl rfl rfl rfl (by omega) (cm rfl (Ch.nil (Fin.famD3V1 (j + 1) (gs3) (_) u (⟨⟨by omega, hj2, hj3.step⟩, by omega⟩) ⟨⟨_, rfl, int_succ j⟩, ke rfl, ke rfl, ke rfl, ke rfl, ke rfl, ke rfl, ke rfl, ke rfl, trivial⟩ (fun _ _ h => h))))))))
 have q5 := Nrm.nrm h5
 refine TO.noG rfl rfl rfl (ne_true h5) rfl (by decide) (TO.noG rfl rfl rfl (ne_true h5) rfl (by decide) (TO.noG rfl rfl rfl (ne_true h5) rfl (by decide) (tp rfl (kpf rfl rfl h5 rfl) (tm rfl ?_))))
 iterate 4 refine TO.noG rfl rfl rfl (ne_true rfl) rfl (by decide) ?_
 refine tp rfl (kpf rfl rfl rfl rfl) (TO.nil (Fin.go (wk11 0 2 3 4 8 9 65 66 70 71 87 rfl (Tr.cond rfl (fun h => nomatch h) (fun _ => ?_)))))
 refine Tr.skip (Fin.block (Fin.go (Tr.reg0 (cad rfl rfl rfl rfl (by omega) (cm rfl (Ch.nil (Fin.famD3V1 (j + 1) (gs3) (_) u (⟨⟨by omega, hj2, hj3.step⟩, by omega⟩) ⟨⟨_, rfl, int_succ j⟩, ke rfl, ke rfl, ke rfl, ke rfl, ke rfl, ke rfl, ke rfl, ke rfl, trivial⟩ (fun _ _ h => h))))))))
 have hje : j = (2 + s.val 2).toNat := by have := Nrm.nrm h4; rw [hnl] at this; omega
 refine Tr.exit (Fin.then_exit (Fin.then_exit (Fin.block_here (Fin.block (Fin.go (Tr.reg0 (cad rfl rfl rfl rfl (by omega) (cm rfl (Ch.nil (Fin.famD3V1 (i + 1) (gs3) (_) u (⟨⟨by omega, hj2, hj3.row⟩, by omega⟩) ⟨⟨_, rfl, int_succ i⟩, ke rfl, ke rfl, ke rfl, ke rfl, ke rfl, trivial⟩ (fun _ _ h => h)))))))))))
 have hie : i = (2 + s.val 2).toNat := by have := Nrm.nrm h3; rw [hnl] at this; omega
 refine Tr.exit (Fin.then_exit (Fin.then_exit (Fin.block_here (Fin.go (Tr.seq (Tr.seq (Tr.reg0 (co rfl (okp_fieldAddr rfl fo41_1 (vl rfl)) (co rfl (ok_rd 1 rfl (rd_load1 rfl one38 (vl rfl) rfl)) (co rfl (ok_lenm rfl Tryz.underlying38 ⟨_, rfl, andIs_le _ _⟩) (co rfl (ki rfl rfl rfl rfl) (Ch.nil (Fin.go ?_)))))))))))))
 refine Tr.cn rfl ?_ ?_ <;> intro h8 q8
 refine Tr.regT (tp rfl (ok_build (rows := [(0, [_]), (1, [_])]) rfl bl80 zo80 ⟨⟨rfl, (VL.le (vl rfl) (one_cellsP _))⟩, ⟨⟨rfl, (VL.le (vl rfl) (one_cellsP _))⟩, trivial⟩⟩ rfl) (tp rfl (ok_buildSlice (xs := [.tmp 102]) (rows := [_]) rfl rfl Tryz.underlying38 sz80 z80 rfl (by decide) ⟨⟨(by exact rfl), (VL.le (vl rfl) (agg_cellsP _))⟩, trivial⟩ (by decide)) ?_))
 refine tp rfl (okp_fieldAddr rfl fo41_1 (vl rfl)) (TO.ef0 1 rfl rfl (ef_store rfl rfl (vl rfl) (VL.le (vl rfl) (one_cellsP _)) sz38 rfl (by exact Nat.le_of_ble_eq_true rfl) rfl) (TO.nil (Fin.go (wk3 0 2 3 rfl (Tr.seq (Tr.seq ?_))))))
 have hv9 := s3.val_in (n := 3) (by omega)
 obtain ⟨gs2, hge, hge2, hge3, hge4⟩ : ∃ l : List Edg, l = [⟨0, 1⟩] ∧ (∀ k, k < l.length → edgeAt (2 + s.val 2).toNat l k = true) ∧ 1 ≤ l.length ∧ l.length ≤ 3 := ⟨_, rfl, ((EdI.nil (2 + s.val 2).toNat 0 1).snoc ⟨by omega, by omega⟩ ⟨by omega, by omega⟩ (by omega)).at_, by simp, by simp⟩
 refine Tr.reC 1 [slice 9 (es.map rowEp), edgs gs2, is (.slice none 0 0)] rfl ⟨Pr.le_refl _, Pr.le_trans (full_le _ _) (Pr.le_of_eq (by rw [hge]; rfl)), Pr.le_refl _, trivial⟩ ?_
 refine Tr.drop 0 (Tr.regT (tm rfl (TO.efc 2 rfl rfl (by decide) (ef_callc rfl rfl (by decide) rfl (w_DNext (by omega) (by omega)) ⟨ke rfl, ke rfl, trivial⟩) (tm rfl (TO.nil (Fin.go (Tr.block (Tr.reC 0 [slice 9 (es.map rowEp), edgs gs2, andIs (.slice none 0 0) (itms [])] rfl ⟨Pr.le_refl _, Pr.le_refl _, own_nil rfl, trivial⟩ (Tr.addnil 107 5 ?_)))))))))
 refine Tr.loopD3V1 [(0, _), (2, _), (3, _)] ⟨ke rfl, ke rfl, ke rfl, trivial⟩ (fun (q : Int) (its : List Itm) (s5 : DS) x => [(10, int q)]) (fun (q : Int) (its : List Itm) (s5 : DS) x => Hp M0 w0 S (appRes 107 5 x :: cellsRes true b2 41 [slice 9 (es.map rowEp), edgs gs2, andIs x (itms its)] :: cellsRes true b1 41 (([.slice none 0 0, .slice none 0 0, .slice none 0 0] : List Value).map is) :: diceS b s5 :: extRes M1 w1 :: rs)) (fun (q : Int) (its : List Itm) (s5 : DS) => 0 ≤ q ∧ q + its.length ≤ 2 ∧ ∀ x ∈ its, ItmS x) (fun (q : Int) (its : List Itm) (s5 : DS) => q.toNat) (_) ([]) (_) (.slice none 0 0) (⟨by omega, by simp; omega, fun x h => by simp at h⟩) ⟨ke rfl, trivial⟩ (fun _ _ h => h) ?_
 rintro q its s5 x ⟨hq1, hq2, hqi⟩
 refine Tr.seq (Tr.seq (Tr.reg0 (cm rfl (co rfl (ki rfl rfl rfl rfl) (Ch.nil (Fin.go ?_))))))
 refine Tr.cn rfl ?_ ?_ <;> intro h9 q9
 have hq3 : 0 < q := of_decide_eq_true h9
 refine Tr.skip (Fin.go (Tr.seq (Tr.block (Tr.pad (Tr.regX mixed [none, some (0, 2, false, 0), none, none, none, some (0, 4, true, 0), some (0, 4, true, 0), none, some (0, 1, true, 119), none, some (0, 2, true, 119)] (by kernel_rfl) (xo rfl (fun _ => okp_fieldAddr rfl fo41_2 (vl rfl)) (xrd 2 rfl rfl (rd_load1 rfl one39 (vl rfl) rfl) (xm rfl (xm rfl (xo rfl (fun _ => ok_buildSlice (xs := [.const (.string ⟨[98, 97, 99, 107, 117, 112].toArray⟩), .const (.string ⟨[100, 101, 101, 100].toArray⟩)]) (rows := [[_], [_]]) rfl rfl Tryz.underlying74 sz9 z9 rfl (by decide) ⟨⟨(by exact rfl), (VL.le (vl rfl) (one_cellsP _))⟩, ⟨⟨(by exact rfl), (VL.le (vl rfl) (one_cellsP _))⟩, trivial⟩⟩ (by decide)) ?_))))))))))
 refine Cx.ef 4 rfl rfl (by decide) (ef_callc rfl rfl (by decide) rfl (w_DWordE (l := [[98, 97, 99, 107, 117, 112], [100, 101, 101, 100]]) (by simp) (by simp)) ⟨ke rfl, ⟨_, rfl, full_le _ _⟩, trivial⟩) ?_
 refine Cx.ef 4 rfl rfl (by decide) (ef_callc rfl rfl (by decide) rfl (w_ItemF) ⟨ke rfl, ke rfl, trivial⟩) (xo rfl (fun _ => ok_buildSlice (xs := [.tmp 117]) (rows := [_]) rfl rfl Tryz.underlying39 sz107 z107 rfl (by decide) ⟨⟨(by exact rfl), (VL.le (vl rfl) (agg_cellsP _))⟩, trivial⟩ (by decide)) ?_)
 refine Cx.ef 1 rfl rfl (by decide) (ef_append rfl rfl (by decide) rfl Tryz.underlying39 sz107 by107 z107 rfl (by decide) ⟨_, rfl, andIs_le _ _⟩ ⟨_, rfl, full_le _ _⟩ (by simp only [List.length_append, List.length_cons, List.length_nil, List.length_map]; unfold maxLen; omega) (by simp only [List.length_append, List.length_cons, List.length_nil, List.length_map]; omega) (appR_is (by exact List.Mem.head _) ⟨_, rfl, andIs_is _ _⟩)) ?_
 refine xo rfl (fun _ => okp_fieldAddr rfl fo41_2 (vl rfl)) (Cx.ef0 2 rfl rfl (ef_storeS rfl rfl rfl (vl rfl) rfl sz39 (by exact Nat.le_of_ble_eq_true rfl)) ?_)
 refine Cx.nil ⟨rfl, ?_⟩
 refine FinX.open2 1 2 119 rfl rfl (by decide) rfl (fun v6 => ?_)
 refine FinX.done (AllC.cons (AllC.cons (AllC.cons (AllC.cons (AllC.cons (AllC.cons (AllC.map _))))))) (Fin.block (Fin.go (Tr.drop 0 (wk4 0 2 3 10 rfl (Tr.reg0 (cm rfl (csu rfl rfl rfl rfl (by omega) (cm rfl (Ch.nil ?_)))))))))
 refine Fin.reC 1 [slice 9 (es.map rowEp), edgs gs2, andIs v6 (itms (its ++ [(itemF s5.adv (wordOf s5 [backup, deed]))]))] rfl ⟨Pr.le_refl _, Pr.le_refl _, own_le (by rw [List.map_append]; rfl), trivial⟩ ?_
 exact Fin.famD3V1 (q - 1) (its ++ [(itemF s5.adv (wordOf s5 [backup, deed]))]) (_) v6 (⟨⟨by omega, by simp; omega, its_snoc hqi (item_ok (word_ok s5))⟩, by omega⟩) ⟨⟨_, rfl, int_eq (by omega)⟩, ke rfl, ke rfl, ke rfl, trivial⟩ (fun _ _ h => h)
 have hq3 : ¬ 0 < q := of_decide_eq_false h9
 refine Tr.exit (Fin.then_exit (Fin.then_exit (Fin.block_here (Fin.go (Tr.seq (Tr.regT (TO.rd 1 rfl rfl rfl (by decide) (rd_loadA rfl agg41 sz41 (vl rfl) rfl rfl) (TO.store_all 2 rfl rfl rfl (vl rfl) (VL.le (vl rfl) (agg_cellsP _)) rfl sz41 rfl rfl (TO.nil (Fin.go (Tr.ret (Fin.closeD 3 _ rfl rfl (Fin.retY1 [_, _, _] rfl (RVal.cell 2 rfl rfl agg41 sz41 rfl (Pr.le_refl _)) ?_ (fun _ _ _ _ => rfl))))))))))))))
 · exact ex_in ⟨es, gs2, its⟩ (fact_in ⟨by show 2 ≤ es.length; omega, by show es.length ≤ 3; omega, hk3, by show ∀ k, k < gs2.length → edgeAt es.length gs2 k = true; rw [hk2, hke]; exact hge2, hge3, hge4, hqi, by show its.length ≤ 2; omega⟩ (agg_le ⟨Pr.le_refl _, Pr.le_refl _, andIs_le _ _, trivial⟩))
 refine Tr.skip (Fin.go (Tr.seq (Tr.seq ?_)))
 have hv9 := s3.val_in (n := 3) (by omega)
 obtain ⟨gs2, hge, hge2, hge3, hge4⟩ : ∃ l : List Edg, l = gs ∧ (∀ k, k < l.length → edgeAt (2 + s.val 2).toNat l k = true) ∧ 1 ≤ l.length ∧ l.length ≤ 3 := ⟨_, rfl, hi3.at_, by have h_ := h8; simp at h_; exact List.length_pos_iff.2 h_, hi2⟩
 refine Tr.reC 1 [slice 9 (es.map rowEp), edgs gs2, is (.slice none 0 0)] rfl ⟨Pr.le_refl _, Pr.le_trans (andIs_le _ _) (Pr.le_of_eq (by rw [hge])), Pr.le_refl _, trivial⟩ (Tr.drop 0 (Tr.regT (tm rfl (TO.efc 2 rfl rfl (by decide) (ef_callc rfl rfl (by decide) rfl (w_DNext (by omega) (by omega)) ⟨ke rfl, ke rfl, trivial⟩) (tm rfl (TO.nil (Fin.go (wk4 0 2 3 10 rfl (Tr.block (Tr.reC 0 [slice 9 (es.map rowEp), edgs gs2, andIs (.slice none 0 0) (itms [])] rfl ⟨Pr.le_refl _, Pr.le_refl _, own_nil rfl, trivial⟩ (Tr.addnil 107 5 ?_)))))))))))
 refine Tr.loopD3V1 [(0, _), (2, _), (3, _)] ⟨ke rfl, ke rfl, ke rfl, trivial⟩ (fun (q : Int) (its : List Itm) (s5 : DS) x => [(10, int q)]) (fun (q : Int) (its : List Itm) (s5 : DS) x => Hp M0 w0 S (appRes 107 5 x :: cellsRes true b2 41 [slice 9 (es.map rowEp), edgs gs2, andIs x (itms its)] :: cellsRes true b1 41 (([.slice none 0 0, .slice none 0 0, .slice none 0 0] : List Value).map is) :: diceS b s5 :: extRes M1 w1 :: rs)) (fun (q : Int) (its : List Itm) (s5 : DS) => 0 ≤ q ∧ q + its.length ≤ 2 ∧ ∀ x ∈ its, ItmS x) (fun (q : Int) (its : List Itm) (s5 : DS) => q.toNat) (_) ([]) (_) (.slice none 0 0) (⟨by omega, by simp; omega, fun x h => by simp at h⟩) ⟨ke rfl, trivial⟩ (fun _ _ h => h) ?_
 rintro q its s5 x ⟨hq1, hq2, hqi⟩
 refine Tr.seq (Tr.seq (Tr.reg0 (cm rfl (co rfl (ki rfl rfl rfl rfl) (Ch.nil (Fin.go ?_))))))
 refine Tr.cn rfl ?_ ?_ <;> intro h10 q10
 have hq3 : 0 < q := of_decide_eq_true h10
 refine Tr.skip (Fin.go (Tr.seq (Tr.block (Tr.pad (Tr.regX mixed [none, some (0, 2, false, 0), none, none, none, some (0, 4, true, 0), some (0, 4, true, 0), none, some (0, 1, true, 119), none, some (0, 2, true, 119)] (by kernel_rfl) (xo rfl (fun _ => okp_fieldAddr rfl fo41_2 (vl rfl)) (xrd 2 rfl rfl (rd_load1 rfl one39 (vl rfl) rfl) (xm rfl (xm rfl (xo rfl (fun _ => ok_buildSlice (xs := [.const (.string ⟨[98, 97, 99, 107, 117, 112].toArray⟩), .const (.string ⟨[100, 101, 101, 100].toArray⟩)]) (rows := [[_], [_]]) rfl rfl Tryz.underlying74 sz9 z9 rfl (by decide) ⟨⟨(by exact rfl), (VL.le (vl rfl) (one_cellsP _))⟩, ⟨⟨(by exact rfl), (VL.le (vl rfl) (one_cellsP _))⟩, trivial⟩⟩ (by decide)) ?_))))))))))
 refine Cx.ef 4 rfl rfl (by decide) (ef_callc rfl rfl (by decide) rfl (w_DWordE (l := [[98, 97, 99, 107, 117, 112], [100, 101, 101, 100]]) (by simp) (by simp)) ⟨ke rfl, ⟨_, rfl, full_le _ _⟩, trivial⟩) ?_
 refine Cx.ef 4 rfl rfl (by decide) (ef_callc rfl rfl (by decide) rfl (w_ItemF) ⟨ke rfl, ke rfl, trivial⟩) (xo rfl (fun _ => ok_buildSlice (xs := [.tmp 117]) (rows := [_]) rfl rfl Tryz.underlying39 sz107 z107 rfl (by decide) ⟨⟨(by exact rfl), (VL.le (vl rfl) (agg_cellsP _))⟩, trivial⟩ (by decide)) ?_)
 refine Cx.ef 1 rfl rfl (by decide) (ef_append rfl rfl (by decide) rfl Tryz.underlying39 sz107 by107 z107 rfl (by decide) ⟨_, rfl, andIs_le _ _⟩ ⟨_, rfl, full_le _ _⟩ (by simp only [List.length_append, List.length_cons, List.length_nil, List.length_map]; unfold maxLen; omega) (by simp only [List.length_append, List.length_cons, List.length_nil, List.length_map]; omega) (appR_is (by exact List.Mem.head _) ⟨_, rfl, andIs_is _ _⟩)) ?_
 refine xo rfl (fun _ => okp_fieldAddr rfl fo41_2 (vl rfl)) (Cx.ef0 2 rfl rfl (ef_storeS rfl rfl rfl (vl rfl) rfl sz39 (by exact Nat.le_of_ble_eq_true rfl)) ?_)
 refine Cx.nil ⟨rfl, ?_⟩
 refine FinX.open2 1 2 119 rfl rfl (by decide) rfl (fun v7 => ?_)
 refine FinX.done (AllC.cons (AllC.cons (AllC.cons (AllC.cons (AllC.cons (AllC.cons (AllC.map _))))))) (Fin.block (Fin.go (Tr.drop 0 (wk4 0 2 3 10 rfl (Tr.reg0 (cm rfl (csu rfl rfl rfl rfl (by omega) (cm rfl (Ch.nil ?_)))))))))
 refine Fin.reC 1 [slice 9 (es.map rowEp), edgs gs2, andIs v7 (itms (its ++ [(itemF s5.adv (wordOf s5 [backup, deed]))]))] rfl ⟨Pr.le_refl _, Pr.le_refl _, own_le (by rw [List.map_append]; rfl), trivial⟩ ?_
 exact Fin.famD3V1 (q - 1) (its ++ [(itemF s5.adv (wordOf s5 [backup, deed]))]) (_) v7 (⟨⟨by omega, by simp; omega, its_snoc hqi (item_ok (word_ok s5))⟩, by omega⟩) ⟨⟨_, rfl, int_eq (by omega)⟩, ke rfl, ke rfl, ke rfl, trivial⟩ (fun _ _ h => h)
 have hq3 : ¬ 0 < q := of_decide_eq_false h10
 refine Tr.exit (Fin.then_exit (Fin.then_exit (Fin.block_here (Fin.go (Tr.seq (Tr.regT (TO.rd 1 rfl rfl rfl (by decide) (rd_loadA rfl agg41 sz41 (vl rfl) rfl rfl) (TO.store_all 2 rfl rfl rfl (vl rfl) (VL.le (vl rfl) (agg_cellsP _)) rfl sz41 rfl rfl (TO.nil (Fin.go (Tr.ret (Fin.closeD 3 _ rfl rfl (Fin.retY1 [_, _, _] rfl (RVal.cell 2 rfl rfl agg41 sz41 rfl (Pr.le_refl _)) ?_ (fun _ _ _ _ => rfl))))))))))))))
 · exact ex_in ⟨es, gs2, its⟩ (fact_in ⟨by show 2 ≤ es.length; omega, by show es.length ≤ 3; omega, hk3, by show ∀ k, k < gs2.length → edgeAt es.length gs2 k = true; rw [hk2, hke]; exact hge2, hge3, hge4, hqi, by show its.length ≤ 2; omega⟩ (agg_le ⟨Pr.le_refl _, Pr.le_refl _, andIs_le _ _, trivial⟩))
end Go.Proofs.YtppeeogffbpcbaaGreat
namespace Go.Proofs.YtppeeogffbpcbaaGreat
open Go Go.RowKit Cp

theorem apE_ok {l : List Ept} {c : Chg} (h : (apE l c).2 = 0) : ∃ x, 0 ≤ c.endpoint ∧ l[c.endpoint.toNat]? = some x ∧ (doneR x c).2.2 = 0 ∧ (apE l c).1 = l.set c.endpoint.toNat (doneR x c).1 := by
  by_cases hb : c.endpoint < 0 ∨ ((l.length : Nat) : Int) ≤ c.endpoint
  · rw [apE_bad hb] at h; cases h
  · obtain ⟨x, hx⟩ := at_ (l := l) (k := c.endpoint.toNat) (by omega)
    rw [apE_at hb hx] at h ⊢
    by_cases h0 : (doneR x c).2.2 = 0
    · rw [if_pos h0]; exact ⟨x, by omega, hx, h0, rfl⟩
    · rw [if_neg h0] at h; exact absurd h h0
theorem st_ok {e : Est} {l : List Chg} {s : List Int} (h : estB e = true) (hl : l.length ≤ 24) (hs : setB l.length s = true) : stE e l s = if (runE l s e.eps).2 = 0 then (⟨(runE l s e.eps).1, e.edges, e.items⟩, 0) else (zeroSt, (runE l s e.eps).2) := by
  unfold stE; rw [if_neg (by simp [h]), if_neg (by omega), if_neg (by simp [hs])]
theorem SndSt.sz {e : Est} (h : SndSt e) : e.sz 5 := by
  have h3 := h.n3; have g3 := h.g3; have i2 := h.i2
  refine ⟨fun x hx => ?_, fun x hx => ⟨by have := (h.it x hx).name; unfold maxLen; omega, by have := (h.it x hx).links; omega⟩, by omega, by omega, by omega⟩
  obtain ⟨i, hi⟩ := List.getElem?_of_mem hx
  exact sndE_sz (h.snd i x hi)
theorem zeroSt_sz : zeroSt.sz 0 := ⟨(fun x hx => by cases hx), (fun x hx => by cases hx), Nat.zero_le _, Nat.zero_le _, Nat.zero_le _⟩
theorem zeroSt_ok : estB zeroSt = true := by decide
theorem apl_zero (c : Chg) (h : c.endpoint = 0) : aplE zeroSt c = (zeroSt, 40) := by
  unfold aplE; rw [if_neg (by rw [zeroSt_ok]; decide)]; unfold stp; rw [apE_bad (.inr (by rw [h]; exact Int.le_refl _))]; rfl
theorem st_of {e : Est} {l : List Chg} {s : List Int} {n : Nat} {x : Est} {f : Int} (h : stE e l s = (x, f)) (hz : e.sz n) (hn : n ≤ 800000) (hc : ∀ c ∈ l, c.idn.fits ∧ c.idn.small) : Fun Tryz.prog 31 [agg (rowSt e), slice 8 (l.map rowChg), ints s] (tup [agg (rowSt x), int f]) := by
  have := w_EsState (e := e) (l := l) (s := s) hz hn hc; rw [h] at this; exact this
theorem eapl_of {e : Est} {c : Chg} {n : Nat} {x : Est} {f : Int} (h : aplE e c = (x, f)) (hz : e.sz n) (hn : n ≤ 800000) (hc : c.idn.fits ∧ c.idn.small) : Fun Tryz.prog 33 [agg (rowSt e), agg (rowChg c)] (tup [agg (rowSt x), int f]) := by
  have := w_EsApply (e := e) (c := c) hz hn hc; rw [h] at this; exact this

theorem w_awake25   : Fun Tryz.prog 28 [] (bool true) := by
 refine fo Tryz.func28 rfl ⟨rfl, rfl⟩ fun M0 w0 => ?_
 refine ac ?_
 refine ac ?_
 refine co rfl (ok_call rfl (w_EsIndex (e := zeroSt) (n := [97, 112, 112])) ⟨⟨_, rfl, agg_le ⟨nil_slice 9, nil_slice 2, nil_slice 5, trivial⟩⟩, ke rfl, trivial⟩) ?_
 refine ac ?_
 refine ao ?_
 refine tp rfl (ok_call rfl (eapl_of (e := zeroSt) (c := ⟨0, 1, 0, 0, zeroId⟩) (apl_zero _ rfl) zeroSt_sz (by omega) ⟨id0_fits, id0_small⟩) ⟨⟨_, rfl, agg_le ⟨nil_slice 9, nil_slice 2, nil_slice 5, trivial⟩⟩, ⟨_, rfl, agg_le ⟨Pr.le_refl _, Pr.le_refl _, Pr.le_refl _, Pr.le_refl _, Pr.le_refl _, Pr.le_refl _, Pr.le_refl _, nil_slice 15, trivial⟩⟩, trivial⟩) ?_
 refine ao ?_
 refine TO.alloc rfl rfl (by decide) rfl z41 zo41 (fun b1 => ?_)
 refine sf 0 3 ⟨rfl, rfl, rfl⟩ rfl rfl rfl rfl ?_
 refine ao ?_
 refine wk2 2 4 rfl ?_
 refine ac ?_
 refine Ch.cs 18 rfl ?_ ?_ <;> intro h1 q1
 refine ac ?_
 refine Ch.cs 22 rfl ?_ ?_ <;> intro h2 q2
 refine ac ?_
 refine cy h2 rfl (ok_call rfl (w_EsSame (a := zeroSt) (b := zeroSt)) ⟨⟨_, rfl, agg_le ⟨nil_slice 9, nil_slice 2, nil_slice 5, trivial⟩⟩, ⟨_, rfl, agg_le ⟨nil_slice 9, nil_slice 2, nil_slice 5, trivial⟩⟩, trivial⟩) ?_
 refine ac ?_
 refine Ch.cs 27 rfl ?_ ?_ <;> intro h3 q3
 refine ac ?_
 refine cy h3 rfl (ok_build (rows := [(1, [_])]) rfl bl41 zo41 ⟨⟨rfl, ⟨_, rfl, Pr.le_trans (full_le _ _) (one_cellsP _)⟩⟩, trivial⟩ rfl) ?_
 refine cy h3 rfl (ok_call rfl (w_EsSame (a := zeroSt) (b := ⟨[], [⟨0, 1⟩], []⟩)) ⟨⟨_, rfl, agg_le ⟨nil_slice 9, nil_slice 2, nil_slice 5, trivial⟩⟩, ⟨_, rfl, agg_le ⟨nil_slice 9, Pr.le_of_eq rfl, nil_slice 5, trivial⟩⟩, trivial⟩) ?_
 refine ac ?_
 refine wk1 0 rfl ?_
 refine ac ?_
 · exact bool_eq (by decide)
 exact absurd h3 (by decide)
 exact absurd h2 (by decide)
 exact absurd h1 (by decide)
end Go.Proofs.YtppeeogffbpcbaaGreat
namespace Go.Proofs.YtppeeogffbpcbaaGreat
open Go Go.RowKit Cp

abbrev exI (φ : Int → Prop) : Pr := Cp.ex fun n : Int => fact (φ n) (int n)
/-- A change that is drawn, of which each part is known up to its kind. -/
abbrev rowAny (es : List Ept) : List Pr := [exI fun n => 0 ≤ n ∧ n < (es.length : Nat), exI fun n => 1 ≤ n ∧ n ≤ 12, anyK .i64, anyK .i64, anyK .i64, anyK .i64, anyK .i64, chE]
theorem any_cells {es : List Ept} : Pr.le (Cp.ex fun c : Chg => fact (AnyP es c) (agg (rowChg c))) (cellsP (rowAny es)) := by
  rintro M w v ⟨c, hc, hv⟩
  exact (agg_cellsP (rowAny es)) M w v (agg_le (ps := rowChg c) (qs := rowAny es) ⟨ex_in _ (fact_in ⟨hc.lo, hc.hi⟩ (Pr.le_refl _)), ex_in _ (fact_in hc.kind (Pr.le_refl _)), is_anyK _ _, is_anyK _ _, is_anyK _ _, is_anyK _ _, is_anyK _ _, ex_in c.idn.chain (fact_in ⟨hc.fits, ⟨hc.small.chain, hc.small.names⟩⟩ (Pr.le_refl _)), trivial⟩ M w v hv)
theorem ref_any {es : List Ept} : Pr.le (ref (rowAny es)) (Cp.ex fun c : Chg => fact (AnyP es c) (ref (rowChg c))) := by
  rintro M w v ⟨ad, hv, h⟩
  obtain ⟨u0, a0, b0, c0, n0, hn0, e0⟩ := h 0 _ rfl
  obtain ⟨u1, a1, b1, c1, n1, hn1, e1⟩ := h 1 _ rfl
  obtain ⟨u2, a2, b2, c2, n2, e2⟩ := h 2 _ rfl
  obtain ⟨u3, a3, b3, c3, n3, e3⟩ := h 3 _ rfl
  obtain ⟨u4, a4, b4, c4, n4, e4⟩ := h 4 _ rfl
  obtain ⟨u5, a5, b5, c5, n5, e5⟩ := h 5 _ rfl
  obtain ⟨u6, a6, b6, c6, n6, e6⟩ := h 6 _ rfl
  obtain ⟨u7, a7, b7, c7, ch, hch, e7⟩ := h 7 _ rfl
  refine ⟨⟨n0, n1, n2, n3, ⟨n4, n5, n6, ch⟩⟩, ⟨hn0.1, hn0.2, hn1, hch.fits, ⟨hch.small.chain, hch.small.names⟩⟩, ad, hv, fun j p hp => ?_⟩
  match j, hp with
  | 0, hp => cases hp; exact ⟨u0, a0, b0, c0, e0⟩
  | 1, hp => cases hp; exact ⟨u1, a1, b1, c1, e1⟩
  | 2, hp => cases hp; exact ⟨u2, a2, b2, c2, e2⟩
  | 3, hp => cases hp; exact ⟨u3, a3, b3, c3, e3⟩
  | 4, hp => cases hp; exact ⟨u4, a4, b4, c4, e4⟩
  | 5, hp => cases hp; exact ⟨u5, a5, b5, c5, e5⟩
  | 6, hp => cases hp; exact ⟨u6, a6, b6, c6, e6⟩
  | 7, hp => cases hp; exact ⟨u7, a7, b7, c7, e7⟩
  | j + 8, hp => simp at hp
theorem set_asc {n : Int} {s : List Int} (h : setB n s = true) : AscI s := by
  refine ascI_of (allI_iff.2 fun j hj => ?_)
  have := (allI_iff.1 h) j hj
  unfold setAt at this
  simp only [Bool.and_eq_true] at this
  exact this.2
theorem set_in {n : Int} {s : List Int} (h : setB n s = true) : ∀ x ∈ s, 0 ≤ x ∧ x < n := by
  intro x hx
  obtain ⟨k, hk⟩ := List.getElem?_of_mem hx
  have := (allI_iff.1 h) k (lt_of_at hk)
  unfold setAt at this
  rw [hk] at this
  simp only [Option.getD_some, Bool.and_eq_true, decide_eq_true_eq] at this
  exact this.1
theorem set_of {n : Int} {s : List Int} (h1 : AscI s) (h2 : ∀ x ∈ s, 0 ≤ x ∧ x < n) : setB n s = true := by
  refine allI_iff.2 fun j hj => ?_
  obtain ⟨x, hx⟩ := at_ hj
  have := h2 x (List.mem_of_getElem? hx)
  unfold setAt
  rw [hx, Option.getD_some]
  rcases Nat.eq_zero_or_pos j with hz | hz
  · simp [hz]; omega
  · obtain ⟨y, hy⟩ := at_ (l := s) (k := j - 1) (by omega)
    have := ascI_lt h1 (show j - 1 < j by omega) hy hx
    rw [hy, Option.getD_some]; simp; omega
theorem set_filter {n : Int} {s : List Int} (p : Int → Bool) (h : setB n s = true) : setB n (s.filter p) = true :=
  set_of ((set_asc h).filter p) fun x hx => set_in h x ((List.mem_filter.1 hx).1)
theorem apE_rel {eps eps' : List Ept} {c : Chg} (hl : eps.length = eps'.length) (hx : 0 ≤ c.endpoint → eps[c.endpoint.toNat]? = eps'[c.endpoint.toNat]?) (h0 : (apE eps c).2 = 0) : (apE eps' c).2 = 0 ∧ ∀ k : Nat, eps[k]? = eps'[k]? → (apE eps c).1[k]? = (apE eps' c).1[k]? := by
  obtain ⟨x, hlo, hx1, hd, hs⟩ := apE_ok h0
  have hlt := lt_of_at hx1
  have hx2 : eps'[c.endpoint.toNat]? = some x := by rw [← hx hlo]; exact hx1
  have h2 := apE_at (l := eps') (c := c) (by omega) hx2
  rw [if_pos hd] at h2
  rw [hs, h2]
  refine ⟨rfl, fun k hk => ?_⟩
  by_cases hck : c.endpoint.toNat = k
  · subst hck; rw [List.getElem?_set_self hlt, List.getElem?_set_self (by omega)]
  · rw [List.getElem?_set_ne hck, List.getElem?_set_ne hck]; exact hk
theorem apE_off {eps : List Ept} {c : Chg} {k : Nat} (hk : (k : Int) ≠ c.endpoint) : (apE eps c).1[k]? = eps[k]? := by
  unfold apE
  split
  · rfl
  next hb =>
  split
  · rfl
  next x hx =>
  split
  · exact List.getElem?_set_ne (by omega)
  · rfl
/-- Only what changes an end matters there. -/
theorem run_rel {l : List Chg} (P : Int → Bool) : ∀ (s : List Int) (eps eps' : List Ept), (∀ i ∈ s, ∃ c, l[i.toNat]? = some c) → eps.length = eps'.length → (∀ k : Nat, P k = true → eps[k]? = eps'[k]?) → (runE l s eps).2 = 0 →
    (runE l (s.filter fun i => (l[i.toNat]?).any fun c => P c.endpoint) eps').2 = 0 ∧ ∀ k : Nat, P k = true → (runE l s eps).1[k]? = (runE l (s.filter fun i => (l[i.toNat]?).any fun c => P c.endpoint) eps').1[k]?
  | [], eps, eps', _, _, hP, _ => ⟨rfl, hP⟩
  | i :: s, eps, eps', hs, hl, hP, h0 => by
    obtain ⟨c, hc⟩ := hs i (List.mem_cons_self ..)
    have ht : ∀ j ∈ s, ∃ c, l[j.toNat]? = some c := fun j hj => hs j (List.mem_cons_of_mem _ hj)
    rw [runE] at h0 ⊢
    simp only [hc] at h0 ⊢
    by_cases ha : (apE eps c).2 = 0
    · rw [if_pos ha] at h0 ⊢
      by_cases hp : P c.endpoint = true
      · have hf : ((i :: s).filter fun i => (l[i.toNat]?).any fun c => P c.endpoint) = i :: s.filter fun i => (l[i.toNat]?).any fun c => P c.endpoint := List.filter_cons_of_pos (by rw [hc]; exact hp)
        obtain ⟨g1, g2⟩ := apE_rel hl (fun h => hP _ (by rw [show ((c.endpoint.toNat : Nat) : Int) = c.endpoint by omega]; exact hp)) ha
        rw [hf, runE]
        simp only [hc]
        rw [if_pos g1]
        exact run_rel P s _ _ ht (by rw [apE_len, apE_len]; exact hl) (fun k hk => g2 k (hP k hk)) h0
      · have hf : ((i :: s).filter fun i => (l[i.toNat]?).any fun c => P c.endpoint) = s.filter fun i => (l[i.toNat]?).any fun c => P c.endpoint := List.filter_cons_of_neg (by rw [hc]; exact hp)
        rw [hf]
        refine run_rel P s _ _ ht (by rw [apE_len]; exact hl) (fun k hk => ?_) h0
        rw [apE_off (fun h => hp (by rw [← h]; exact hk))]; exact hP k hk
    · rw [if_neg ha] at h0; exact absurd h0 ha
def relB (g : Edg) (n : Int) : Bool := decide (n = g.client ∨ n = g.server)
theorem rel_has {g : Edg} {l : List Chg} {i : Int} (h : 0 ≤ i ∧ i < (l.length : Nat)) : ((relT g l l.length).any fun x => i == x) = (l[i.toNat]?).any fun c => relB g c.endpoint := by
  obtain ⟨c, hc⟩ := at_ (l := l) (k := i.toNat) (by omega)
  rw [Bool.eq_iff_iff, List.any_eq_true]
  unfold relT
  constructor
  · rintro ⟨x, hx, hix⟩
    obtain ⟨k, hk, rfl⟩ := List.mem_map.1 hx
    have hk2 := (List.mem_filter.1 hk).2
    have : i = (k : Int) := by simpa using hix
    subst this
    exact hk2
  · intro hr
    refine ⟨i, List.mem_map.2 ⟨i.toNat, List.mem_filter.2 ⟨List.mem_range.2 (by omega), ?_⟩, by omega⟩, by simp⟩
    exact hr
theorem some_eq {g : Edg} {l : List Chg} {s : List Int} (h : setB l.length s = true) : (s.filter fun i => (relT g l l.length).any fun x => i == x) = s.filter fun i => (l[i.toNat]?).any fun c => relB g c.endpoint :=
  List.filter_congr fun i hi => rel_has (set_in h i hi)
/-- The ends of an edge. -/
theorem st_rel {e : Est} {l : List Chg} {s : List Int} {g : Edg} (h : estB e = true) (hl : l.length ≤ 24) (hs : setB l.length s = true) {x : Est} (hS : stE e l s = (x, 0)) : ∃ y, stE e l (s.filter fun i => (relT g l l.length).any fun x => i == x) = (y, 0) ∧ x.eps.length = e.eps.length ∧ y.eps.length = e.eps.length ∧ ∀ k : Nat, relB g k = true → x.eps[k]? = y.eps[k]? := by
  have hv : ∀ i ∈ s, ∃ c, l[i.toNat]? = some c := fun i hi => at_ (by have := set_in hs i hi; omega)
  rw [st_ok h hl hs] at hS
  have h0 : (runE l s e.eps).2 = 0 := by
    by_cases h0 : (runE l s e.eps).2 = 0
    · exact h0
    · rw [if_neg h0] at hS; exact (Prod.mk.inj hS).2
  rw [if_pos h0] at hS
  obtain ⟨rfl, _⟩ := Prod.mk.inj hS
  obtain ⟨g1, g2⟩ := run_rel (relB g) s e.eps e.eps hv rfl (fun _ _ => rfl) h0
  rw [some_eq hs]
  have hlen : ∀ (t : List Int) (q : List Ept), (runE l t q).1.length = q.length := by
    intro t
    induction t with
    | nil => intro q; rfl
    | cons i t ih =>
      intro q
      rw [runE]
      split
      · rfl
      · split
        · rw [ih, apE_len]
        · rfl
  refine ⟨⟨(runE l (s.filter fun i => (l[i.toNat]?).any fun c => relB g c.endpoint) e.eps).1, e.edges, e.items⟩, ?_, hlen _ _, hlen _ _, g2⟩
  rw [st_ok h hl (set_filter _ hs), if_pos g1]
/-- Changes of different endpoints. -/
theorem com_diff {e : Est} {a b : Chg} {x y : Ept} (hab : a.endpoint ≠ b.endpoint) (h1 : 0 ≤ a.endpoint) (h2 : 0 ≤ b.endpoint) (hx : e.eps[a.endpoint.toNat]? = some x) (hy : e.eps[b.endpoint.toNat]? = some y) : comB e a b = decide ((doneR x a).2.2 = 0 ∧ (doneR y b).2.2 = 0) := by
  have hxl := lt_of_at hx
  have hyl := lt_of_at hy
  have hA := apE_at (l := e.eps) (c := a) (by omega) hx
  have hB := apE_at (l := e.eps) (c := b) (by omega) hy
  have hne : a.endpoint.toNat ≠ b.endpoint.toNat := by omega
  unfold comB run2
  rw [hA, hB]
  by_cases ha : (doneR x a).2.2 = 0
  · by_cases hb : (doneR y b).2.2 = 0
    · have hBA := apE_at (l := e.eps.set a.endpoint.toNat (doneR x a).1) (c := b) (by rw [List.length_set]; omega) (by rw [List.getElem?_set_ne hne]; exact hy)
      have hAB := apE_at (l := e.eps.set b.endpoint.toNat (doneR y b).1) (c := a) (by rw [List.length_set]; omega) (by rw [List.getElem?_set_ne (Ne.symm hne)]; exact hx)
      simp only [if_pos ha, if_pos hb, hBA, hAB, if_true, List.set_comm _ _ hne, ha, hb, and_self]
    · have hBA := apE_at (l := e.eps.set a.endpoint.toNat (doneR x a).1) (c := b) (by rw [List.length_set]; omega) (by rw [List.getElem?_set_ne hne]; exact hy)
      simp [ha, hb, hBA]
  · simp [ha]

end Go.Proofs.YtppeeogffbpcbaaGreat
namespace Go.Proofs.YtppeeogffbpcbaaGreat
open Go Go.RowKit Cp Go.ChangeShapes Go.WideShapes Go.ChangeAt

theorem com_of {e : Est} {a b : Chg} {n : Nat} {r : Bool} {f : Int} (h : comE e a b = (r, f)) (hz : e.sz n) (hn : n ≤ 800000) (ha : a.idn.fits ∧ a.idn.small) (hb : b.idn.fits ∧ b.idn.small) : Fun Tryz.prog 38 [agg (rowSt e), agg (rowChg a), agg (rowChg b)] (tup [bool r, int f]) := by
  have := w_EsCommute (e := e) (a := a) (b := b) hz hn ha hb; rw [h] at this; exact this
theorem rel_of {e : Est} {l : List Chg} {i : Int} {n : Nat} {r : List Int} {f : Int} (h : relE e l i = (r, f)) (hz : e.sz n) (hn : n ≤ 800000) : Fun Tryz.prog 41 [agg (rowSt e), slice 8 (l.map rowChg), int i] (tup [ints r, int f]) := by
  have := w_EsRelevant (e := e) (l := l) (i := i) hz hn; rw [h] at this; exact this
theorem filter_len (s : List Int) (m : Nat) (p : Int → Bool) : ((s.take m).filter p).length ≤ m := Nat.le_trans (List.length_filter_le _ _) (by rw [List.length_take]; omega)
theorem filter_yes {s : List Int} {p : Int → Bool} {m : Nat} {x : Int} (h : s[m]? = some x) (hp : p x = true) : (s.take (m + 1)).filter p = (s.take m).filter p ++ [x] := by rw [List.take_add_one, h, List.filter_append]; simp [hp]
theorem filter_no {s : List Int} {p : Int → Bool} {m : Nat} {x : Int} (h : s[m]? = some x) (hp : p x = false) : (s.take (m + 1)).filter p = (s.take m).filter p := by rw [List.take_add_one, h, List.filter_append]; simp [hp]

theorem w_EstateCommutes {t : List Int}  : Fun Tryz.prog 7 [ints t] (bool true) := by
 refine Fun.of Tryz.func7 rfl rfl (by exact Nat.le_of_ble_eq_true rfl) fun M0 w0 => ?_
 refine Tr.seq (Tr.reg0 (cm rfl (Ch.nil (Fin.go (Tr.seq (Tr.seq (Tr.reg0 (cm rfl (co rfl (ok_call rfl (w_Light) ⟨ke rfl, trivial⟩) (co rfl (ok_not rfl (vl rfl)) (Ch.nil (Fin.go ?_))))))))))))
 refine Tr.cn rfl ?_ ?_ <;> intro h1 q1
 refine Tr.seq (Tr.reg0 (co rfl (ok_call rfl (w_awake25) trivial) (cm rfl (Ch.nil (Fin.go (Tr.ret (Fin.then_ret (Fin.ret1 rfl (OutW.bse _ _) rfl ?_))))))))
 · exact Pr.le_refl _
 have ht4 : t.length ≤ 400 := by simpa using h1
 have ht9 : t.length ≤ 1000000000 := by omega
 refine Tr.skip (Fin.go (Tr.seq (Tr.regT (tm rfl (TO.pad ?_)))))
 refine TO.efs 0 rfl rfl (by decide) (ef_call rfl rfl (by decide) rfl (w_Roll (l := t) ht9) ⟨ke rfl, trivial⟩) (fun v1 => ?_)
 refine TO.opn 29 0 _ rfl rfl (fun _ => rfl) (fun b1 => ?_)
 refine tm rfl (TO.nil (Fin.go (Tr.seq (Tr.regT (tm rfl (TO.efc 0 rfl rfl (by decide) (ef_callc rfl rfl (by decide) rfl (w_SoundS) ⟨ke rfl, trivial⟩) ?_))))))
 refine TO.ex 31 rfl (fun z1 => TO.fact 31 rfl fun hz1 => ?_)
 have hez := hz1.sz
 have hok := hz1.ok
 have hn2 := hz1.n2
 have hn3 := hz1.n3
 have hg3 := hz1.g3
 refine TO.alloc rfl rfl (by decide) rfl z41 zo41 (fun b2 => ?_)
 refine TO.store_all 0 rfl rfl rfl (vl rfl) (VL.le (vl rfl) (agg_cellsP _)) rfl sz41 rfl rfl (TO.freeze 0 4 rfl rfl (TO.nil (Fin.openD 0 rfl (fun s1 => ?_))))
 refine Fin.go (Tr.seq (Tr.pad (Tr.pad (Tr.regX mixed [none, none, some (0, 2, true, 0), none, none, some (0, 2, true, 0), some (0, 0, true, 5), some (0, 1, true, 6), some (5, 0, true, 5), some (6, 1, true, 6)] (by kernel_rfl) (xm rfl (xo rfl (fun _ => ok_loadA rfl agg41 sz41 (vl rfl) rfl rfl) ?_))))))
 refine Cx.ef 2 rfl rfl (by decide) (ef_callc rfl rfl (by decide) rfl (w_Any (es := z1.eps) hz1.snd ⟨by omega, by omega⟩) ⟨ke rfl, ke rfl, trivial⟩) ?_
 refine xm rfl (xo rfl (fun _ => ok_loadA rfl agg41 sz41 (vl rfl) rfl rfl) ?_)
 refine Cx.ef 2 rfl rfl (by decide) (ef_callc rfl rfl (by decide) rfl (FunM.exd fun s_ => w_Any (es := z1.eps) hz1.snd ⟨by omega, by omega⟩) ⟨ke rfl, ke rfl, trivial⟩) ?_
 refine Cx.ef 0 rfl rfl (by decide) (ef_allocX rfl rfl (by decide) rfl z29 zo29) (Cx.ef 1 rfl rfl (by decide) (ef_allocX rfl rfl (by decide) rfl z29 zo29) (Cx.ef0 0 rfl rfl (ef_storeX rfl rfl rfl rfl (VL.le (vl rfl) (any_cells)) sz29 rfl rfl) (Cx.ef0 1 rfl rfl (ef_storeX rfl rfl rfl rfl (VL.le (vl rfl) (any_cells)) sz29 rfl rfl) ?_)))
 refine Cx.nil ⟨rfl, ?_⟩
 refine FinX.open_ 0 5 rfl rfl (fun v2 => ?_)
 refine FinX.open_ 1 6 rfl rfl (fun v3 => ?_)
 refine FinX.done (AllC.cons (AllC.cons (AllC.cons (AllC.map _)))) (Fin.opn 5 0 _ rfl rfl (fun _ => rfl) (fun b3 => ?_))
 refine Fin.opn 6 1 _ rfl rfl (fun _ => rfl) (fun b4 => ?_)
 refine Fin.openD 2 rfl (fun s2 => ?_)
 refine Fin.go (wk4 3 4 5 6 rfl (Tr.freeze 0 5 rfl rfl (Tr.re 5 rfl ref_any (Tr.ex 5 rfl fun a => (Tr.fact 5 rfl fun ha => ?_)))))
 have hai : a.idn.fits ∧ a.idn.small := ⟨ha.fits, ha.small⟩
 refine Tr.freeze 0 6 rfl rfl (Tr.re 6 rfl ref_any (Tr.ex 6 rfl fun c => (Tr.fact 6 rfl fun hc => ?_)))
 have hci : c.idn.fits ∧ c.idn.small := ⟨hc.fits, hc.small⟩
 have ha1 := ha.lo
 have ha2 := ha.hi
 have hc1 := hc.lo
 have hc2 := hc.hi
 obtain ⟨xa, hxa⟩ := at_ (l := z1.eps) (k := a.endpoint.toNat) (by omega)
 obtain ⟨xc, hxc⟩ := at_ (l := z1.eps) (k := c.endpoint.toNat) (by omega)
 refine wk4 3 4 5 6 rfl (Tr.cutk [3, 4] [] (True) ?_ (fun htr => ?_))
 refine Tr.seq (Tr.reg0 (co rfl (kfa rfl fo29_0 rfl rfl) (co rfl (kl1 rfl one3 rfl) (co rfl (kfa rfl fo29_0 rfl rfl) (co rfl (kl1 rfl one3 rfl) (co rfl (ki rfl rfl rfl rfl) (Ch.nil (Fin.go ?_))))))))
 refine Tr.cn rfl ?_ ?_ <;> intro h3 q3
 have hcd := com_diff (e := z1) (a := a) (b := c) (by have := q3; omega) ha1 hc1 hxa hxc
 have hce : comE z1 a c = (comB z1 a c, 0) := if_neg (by rw [hok]; decide)
 rw [hcd] at hce
 refine Tr.seq (Tr.reg0 (co rfl (ok_loadA rfl agg41 sz41 (vl rfl) rfl rfl) (co rfl (ok_loadA rfl agg29 sz29 (vl rfl) rfl rfl) (co rfl (ok_loadA rfl agg29 sz29 (vl rfl) rfl rfl) (co rfl (ok_call rfl (com_of hce hez (by omega) hai hci) ⟨ke rfl, ke rfl, ke rfl, trivial⟩) (cm rfl (co rfl (ok_extract rfl (vl rfl) rfl) (co rfl (ok_extract rfl (vl rfl) rfl) (cm rfl (cm rfl (Ch.nil (Fin.go (wk6 3 4 5 6 7 8 rfl (Tr.seq ?_))))))))))))))
 refine Tr.reg1 mixed (by kernel_rfl) (co rfl (kfa rfl fo41_0 rfl rfl) (co rfl (kl1 rfl one37 rfl) (co rfl (kfa rfl fo29_0 rfl rfl) (co rfl (kl1 rfl one3 rfl) (co rfl (ok_indexAddr rfl Tryz.underlying37 sz32 (vl rfl) (vl rfl) (by omega) (row_atI (f := rowEp) hxa)) (co rfl (ok_loadA rfl agg32 sz32 (vl rfl) rfl rfl) (co rfl (ok_loadA rfl agg29 sz29 (vl rfl) rfl rfl) ?_)))))))
 refine co rfl (ok_call rfl (w_R24Check (hez.eps xa (List.mem_of_getElem? hxa)) (by omega) hai) ⟨ke rfl, ke rfl, trivial⟩) ?_
 refine co rfl (ki rfl rfl rfl rfl) (cm rfl ?_)
 refine Ch.cs 59 rfl ?_ ?_ <;> intro h4 q4
 refine cy h4 rfl (kfa rfl fo41_0 rfl rfl) (cy h4 rfl (kl1 rfl one37 rfl) (cy h4 rfl (kfa rfl fo29_0 rfl rfl) (cy h4 rfl (kl1 rfl one3 rfl) (cy h4 rfl (ok_indexAddr rfl Tryz.underlying37 sz32 (vl rfl) (vl rfl) (by omega) (row_atI (f := rowEp) hxc)) (cy h4 rfl (ok_loadA rfl agg32 sz32 (vl rfl) rfl rfl) (cy h4 rfl (ok_loadA rfl agg29 sz29 (vl rfl) rfl rfl) ?_))))))
 refine cy h4 rfl (ok_call rfl (w_R24Check (hez.eps xc (List.mem_of_getElem? hxc)) (by omega) hci) ⟨ke rfl, ke rfl, trivial⟩) ?_
 refine cy h4 rfl (ki rfl rfl rfl rfl) (co rfl (kpt rfl rfl h4 rfl) (cm rfl (Ch.nil (Fin.go (wk5 3 4 7 8 9 rfl (Tr.seq (Tr.reg0 (cm rfl (co rfl (ki rfl rfl rfl rfl) (cm rfl ?_))))))))))
 refine Ch.cs 72 rfl ?_ ?_ <;> intro h5 q5
 exact absurd h5 (by decide)
 refine cym h5 rfl (cym h5 rfl (cy h5 rfl (ok_neb rfl Tryz.underlying4 (vl rfl) (vl rfl)) (co rfl (kpf rfl rfl h5 rfl) (Ch.nil (Fin.go ?_)))))
 refine Tr.cn rfl ?_ ?_ <;> intro h6 q6
 exfalso; simp_all [Bool.beq_eq_decide_eq]
 refine Tr.skip (Fin.fam_same () trivial (kk2 rfl))
 iterate 9 refine cnt h4 rfl ?_
 refine co rfl (kpf rfl rfl h4 rfl) (cm rfl (Ch.nil (Fin.go (wk5 3 4 7 8 9 rfl (Tr.seq (Tr.reg0 (cm rfl (co rfl (ki rfl rfl rfl rfl) (cm rfl ?_)))))))))
 refine Ch.cs 72 rfl ?_ ?_ <;> intro h7 q7
 exact absurd h7 (by decide)
 refine cym h7 rfl (cym h7 rfl (cy h7 rfl (ok_neb rfl Tryz.underlying4 (vl rfl) (vl rfl)) (co rfl (kpf rfl rfl h7 rfl) (Ch.nil (Fin.go ?_)))))
 refine Tr.cn rfl ?_ ?_ <;> intro h8 q8
 exfalso; simp_all [Bool.beq_eq_decide_eq]
 refine Tr.skip (Fin.fam_same () trivial (kk2 rfl))
 refine Tr.skip (Fin.fam_same () trivial (kk2 rfl))
 refine Tr.seq (Tr.regT (tm rfl (tp rfl (ok_loadA rfl agg41 sz41 (vl rfl) rfl rfl) (TO.efc 0 rfl rfl (by decide) (ef_callc rfl rfl (by decide) rfl (w_Moves hz1.snd ⟨by omega, by omega⟩) ⟨ke rfl, ke rfl, trivial⟩) ?_))))
 refine TO.ex 79 rfl (fun z2 => TO.fact 79 rfl fun hz2 => ?_)
 have hzc : ∀ c ∈ z2, c.idn.fits ∧ c.idn.small := fun c hc => ⟨(hz2.any c hc).fits, (hz2.any c hc).small⟩
 have hl7 := hz2.len
 refine tm rfl (TO.nil (Fin.openD 0 rfl (fun s3 => ?_)))
 refine Fin.go (Tr.seq (Tr.regT (tm rfl (tm rfl (tp rfl (ok_lenm rfl Tryz.underlying47 (vl rfl)) ?_)))))
 refine TO.efc 0 rfl rfl (by decide) (ef_callc rfl rfl (by decide) rfl (w_mvSet (n := ((z2.length : Nat) : Int)) (by omega)) ⟨ke rfl, ke rfl, trivial⟩) ?_
 refine TO.ex 83 rfl (fun z3 => TO.fact 83 rfl fun hz3 => ?_)
 obtain ⟨st, rfl⟩ : ∃ st, st = z3 := ⟨_, rfl⟩
 have hs3 := set_len hz3
 obtain ⟨x, f, hS⟩ : ∃ x f, stE z1 z2 st = (x, f) := ⟨_, _, rfl⟩
 refine tm rfl (TO.nil (Fin.openD 0 rfl (fun s4 => ?_)))
 refine Fin.go (Tr.seq (Tr.drop 0 (Tr.regT (tp rfl (ok_loadA rfl agg41 sz41 (vl rfl) rfl rfl) (tm rfl (tm rfl (tp rfl (ok_call rfl (st_of hS hez (by omega) hzc) ⟨ke rfl, ke rfl, ke rfl, trivial⟩) (tm rfl (tp rfl (ok_extract rfl (vl rfl) rfl) (tp rfl (ok_extract rfl (vl rfl) rfl) ?_))))))))))
 refine TO.alloc rfl rfl (by decide) rfl z41 zo41 (fun b5 => ?_)
 refine TO.store_all 0 rfl rfl rfl (vl rfl) (VL.le (vl rfl) (agg_cellsP _)) rfl sz41 rfl rfl (TO.freeze 0 12 rfl rfl (tm rfl (TO.nil (Fin.go (wk5 4 10 11 12 13 rfl (Tr.seq (Tr.seq (Tr.reg0 (cm rfl (co rfl (ki rfl rfl rfl rfl) (Ch.nil (Fin.go ?_))))))))))))
 refine Tr.cn rfl ?_ ?_ <;> intro h9 q9
 refine Tr.seq (Tr.reg0 (co rfl (ok_call rfl (w_awake25) trivial) (cm rfl (Ch.nil (Fin.go (Tr.ret (Fin.then_ret (Fin.ret1 rfl (OutW.bse _ _) rfl ?_))))))))
 · exact Pr.le_refl _
 obtain rfl : f = 0 := by have := q9; omega
 refine Tr.skip (Fin.go (Tr.seq (Tr.seq (Tr.reg0 (co rfl (kfa rfl fo41_1 rfl rfl) (co rfl (kl1 rfl one38 rfl) (co rfl (ok_lenm rfl Tryz.underlying38 (vl rfl)) (cm rfl (Ch.nil (Fin.go (Tr.block (Tr.loopD1V0 [(4, _), (10, _), (11, _), (12, _), (96, _)] ⟨ke rfl, ke rfl, ke rfl, ke rfl, ke rfl, trivial⟩ (fun (k : Nat) => [(97, int ((k : Nat) : Int))]) (fun (k : Nat) => Hp M0 w0 noS ([])) (fun (k : Nat) => k ≤ z1.edges.length) (fun (k : Nat) => z1.edges.length - k) (0)  (Nat.zero_le _) ⟨ke rfl, trivial⟩ (fun _ _ h => h) ?_))))))))))))
 rintro k  hk1
 refine Tr.seq (Tr.reg0 (co rfl (ki rfl rfl rfl rfl) (Ch.nil (Fin.go (Tr.seq ?_)))))
 refine Tr.cn rfl ?_ ?_ <;> intro h10 q10
 have hk_k : k < z1.edges.length := by have := Nrm.nrm h10; omega
 obtain ⟨g, hx_k⟩ := at_ hk_k
 have hg := hx_k
 obtain ⟨y, hY, hxl, hyl, hends⟩ := st_rel (g := g) hok (by omega) hz3 hS
 have hrel : relE z1 z2 ((k : Nat) : Int) = (relT g z2 z2.length, 0) := by unfold relE; rw [if_neg (by rw [hok]; decide), if_neg (by omega), if_neg (by omega), Int.toNat_natCast, getD_at hg]
 have hed := hz1.ed k hk_k
 unfold edgeAt at hed
 rw [getD_at hg] at hed
 simp only [Bool.and_eq_true, decide_eq_true_eq] at hed
 obtain ⟨⟨⟨hge1, hge2⟩, _⟩, _⟩ := hed
 obtain ⟨xp, hxp⟩ := at_ (l := x.eps) (k := g.client.toNat) (by omega)
 obtain ⟨xq, hxq⟩ := at_ (l := x.eps) (k := g.server.toNat) (by omega)
 have hyp : y.eps[g.client.toNat]? = some xp := by rw [← hends _ (by unfold relB; rw [show ((g.client.toNat : Nat) : Int) = g.client by omega]; simp)]; exact hxp
 have hyq : y.eps[g.server.toNat]? = some xq := by rw [← hends _ (by unfold relB; rw [show ((g.server.toNat : Nat) : Int) = g.server by omega]; simp)]; exact hxq
 refine Tr.skip (Fin.go (Tr.seq (Tr.block (Tr.seq (Tr.reg0 (cm rfl (cm rfl (Ch.nil (Fin.go (Tr.seq (Tr.reg0 (co rfl (ok_loadA rfl agg41 sz41 (vl rfl) rfl rfl) (cm rfl ?_)))))))))))))
 refine cm rfl (co rfl (ok_call rfl (rel_of hrel hez (by omega)) ⟨ke rfl, ke rfl, ke rfl, trivial⟩) (cm rfl (co rfl (ok_extract rfl (vl rfl) rfl) (co rfl (ok_extract rfl (vl rfl) rfl) (cm rfl (cm rfl (Ch.nil (Fin.go (wk9 4 10 11 12 14 15 16 96 97 rfl (Tr.seq (Tr.reg0 (cm rfl (Ch.nil (Fin.go ?_))))))))))))))
 refine Tr.seq (Tr.seq (Tr.reg0 (cm rfl (co rfl (ok_lenm rfl Tryz.underlying59 (vl rfl)) (cm rfl (Ch.nil (Fin.go (Tr.block (Tr.addnil 3 1 (Tr.loopV1 [(4, _), (10, _), (11, _), (12, _), (14, _), (15, _), (16, _), (96, _), (97, _), (107, _), (108, _)] ⟨ke rfl, ke rfl, ke rfl, ke rfl, ke rfl, ke rfl, ke rfl, ke rfl, ke rfl, ke rfl, ke rfl, trivial⟩ (fun m v => [(109, int ((m : Nat) : Int)), (17, andIs v (ints ((st.take m).filter fun i => (relT g z2 z2.length).any fun x => i == x)))]) (fun m v => Hp M0 w0 noS ([appRes 3 1 v])) (fun m : Nat => m ≤ (st).length) (fun m : Nat => (st).length - m) 0 (.slice none 0 0) (Nat.zero_le _) ⟨ke rfl, ⟨_, rfl, own_nil rfl⟩, trivial⟩ (fun _ _ h => h) ?_))))))))))
 rintro m v hle_m
 refine Tr.seq (Tr.reg0 (co rfl (ki rfl rfl rfl rfl) (Ch.nil (Fin.go (wk14 4 10 11 12 14 15 16 17 96 97 107 108 109 110 rfl (Tr.seq ?_))))))
 refine Tr.cn rfl ?_ ?_ <;> intro h11 q11
 have hk_m : m < (st).length := lt_of_dec h11
 obtain ⟨i, hx_m⟩ := at_ hk_m
 have hfl := filter_len st m (fun i => (relT g z2 z2.length).any fun x => i == x)
 refine Tr.skip (Fin.go (wk13 4 10 11 12 14 15 16 17 96 97 107 108 109 rfl (Tr.seq (Tr.block (Tr.seq (Tr.reg0 (co rfl (ok_indexAddr rfl Tryz.underlying59 sz3 (vl rfl) (vl rfl) (by omega) (row_at hx_m)) (co rfl (kl1 rfl one3 rfl) (cm rfl (Ch.nil (Fin.go (wk14 4 10 11 12 14 15 16 17 19 96 97 107 108 109 rfl (Tr.seq (Tr.reg0 ?_))))))))))))))
 refine cm rfl (cm rfl ?_)
 refine co rfl (ok_call rfl (w_mvHas (l := relT g z2 z2.length) (v := i)) ⟨ke rfl, ke rfl, trivial⟩) ?_
 refine Ch.nil (Fin.go (wk15 4 10 11 12 14 15 16 17 19 96 97 107 108 109 115 rfl ?_))
 refine Tr.cn rfl ?_ ?_ <;> intro h12 q12
 have hP : ((relT g z2 z2.length).any fun x => i == x) = true := h12
 refine Tr.regT (tm rfl (tm rfl (tp rfl (ok_buildSlice (xs := [.tmp 117]) (rows := [[_]]) rfl rfl Tryz.underlying59 sz3 z3 rfl (by decide) ⟨⟨(by exact rfl), (VL.le (vl rfl) (one_cellsP _))⟩, trivial⟩ (by decide)) ?_)))
 refine TO.efs 0 rfl rfl (by decide) (ef_append rfl rfl (by decide) rfl Tryz.underlying59 sz3 by3 z3 rfl (by decide) ⟨_, rfl, andIs_le _ _⟩ ⟨_, rfl, full_le _ _⟩ (by simp only [List.length_append, List.length_map, List.length_cons, List.length_nil]; unfold maxLen; omega) (by simp only [List.length_append, List.length_map, List.length_cons, List.length_nil]; omega) (appR_is (by exact List.Mem.head _) ⟨_, rfl, andIs_is _ _⟩)) (fun v4 => ?_)
 refine tm rfl (TO.nil (Fin.block (Fin.go (wk13 4 10 11 12 14 15 16 17 96 97 107 108 109 rfl (Tr.reg0 (cad rfl rfl rfl rfl (by omega) (cm rfl (Ch.nil ?_))))))))
 exact Fin.famV1 (m + 1) v4 (⟨hk_m, by omega⟩) ⟨⟨_, rfl, int_succ m⟩, ⟨_, rfl, own_le (by rw [filter_yes hx_m hP, List.map_append]; rfl)⟩, ke rfl, ke rfl, ke rfl, ke rfl, ke rfl, ke rfl, ke rfl, ke rfl, ke rfl, ke rfl, ke rfl, trivial⟩ (fun _ _ h => h)
 have hP : ((relT g z2 z2.length).any fun x => i == x) = false := h12
 refine Tr.skip (Fin.block (Fin.go (wk13 4 10 11 12 14 15 16 17 96 97 107 108 109 rfl (Tr.reg0 (cad rfl rfl rfl rfl (by omega) (cm rfl (Ch.nil (Fin.famV1 (m + 1) v (⟨hk_m, by omega⟩) ⟨⟨_, rfl, int_succ m⟩, ⟨_, rfl, Pr.le_of_eq (by rw [filter_no hx_m hP])⟩, ke rfl, ke rfl, ke rfl, ke rfl, ke rfl, ke rfl, ke rfl, ke rfl, ke rfl, ke rfl, ke rfl, trivial⟩ (fun _ _ h => h)))))))))
 have he_m : m = (st).length := by have := ge_of_dec h11; omega
 subst he_m
 rw [List.take_length]
 refine Tr.exit (Fin.then_exit (Fin.then_exit (Fin.block_here (Fin.go (wk9 4 10 11 12 14 16 17 96 97 rfl (Tr.seq (Tr.regT (tp rfl (ok_loadA rfl agg41 sz41 (vl rfl) rfl rfl) (tm rfl (tm rfl (tp rfl (ok_call rfl (st_of hY hez (by omega) hzc) ⟨ke rfl, ke rfl, ⟨_, rfl, andIs_le _ _⟩, trivial⟩) (tm rfl (tp rfl (ok_extract rfl (vl rfl) rfl) ?_)))))))))))))
 refine tp rfl (ok_extract rfl (vl rfl) rfl) ?_
 refine TO.alloc rfl rfl (by decide) rfl z41 zo41 (fun b6 => ?_)
 refine TO.store_all 0 rfl rfl rfl (vl rfl) (VL.le (vl rfl) (agg_cellsP _)) rfl sz41 rfl rfl (TO.freeze 0 20 rfl rfl (tm rfl (TO.nil (Fin.go (wk10 4 10 11 12 14 16 20 21 96 97 rfl (Tr.seq (Tr.seq (Tr.reg0 (cm rfl (co rfl (ki rfl rfl rfl rfl) (cm rfl ?_)))))))))))
 refine Ch.cs 130 rfl ?_ ?_ <;> intro h13 q13
 exact absurd h13 (by decide)
 refine cym h13 rfl (cy h13 rfl (ki rfl rfl rfl rfl) (co rfl (kpf rfl rfl h13 rfl) (cm rfl ?_)))
 refine Ch.cs 134 rfl ?_ ?_ <;> intro h14 q14
 exact absurd h14 (by decide)
 refine cy h14 rfl (kfa rfl fo41_0 rfl rfl) (cy h14 rfl (kl1 rfl one37 rfl) (cy h14 rfl (ok_lenm rfl Tryz.underlying37 (vl rfl)) (cy h14 rfl (kfa rfl fo41_0 rfl rfl) (cy h14 rfl (kl1 rfl one37 rfl) (cy h14 rfl (ok_lenm rfl Tryz.underlying37 (vl rfl)) (cy h14 rfl (ki rfl rfl rfl rfl) (co rfl (kpf rfl rfl h14 rfl) (cm rfl ?_))))))))
 refine Ch.cs 143 rfl ?_ ?_ <;> intro h15 q15
 exfalso; have h_ := Nrm.nrm h15; omega
 refine cy h15 rfl (kfa rfl fo41_0 rfl rfl) (cy h15 rfl (kl1 rfl one37 rfl) (cy h15 rfl (ok_lenm rfl Tryz.underlying37 (vl rfl)) (cy h15 rfl (kfa rfl fo41_0 rfl rfl) (cy h15 rfl (kl1 rfl one37 rfl) (cy h15 rfl (ok_lenm rfl Tryz.underlying37 (vl rfl)) (cy h15 rfl (ki rfl rfl rfl rfl) (co rfl (kpf rfl rfl h15 rfl) (Ch.nil (Fin.go (wk9 4 10 11 12 14 20 96 97 151 rfl ?_))))))))))
 refine Tr.cn rfl ?_ ?_ <;> intro h16 q16
 exfalso; have h_ := Nrm.nrm h16; omega
 refine Tr.skip (Fin.go (Tr.seq (Tr.reg1 mixed (by kernel_rfl) (co rfl (kfa rfl fo41_1 rfl rfl) (co rfl (kl1 rfl one38 rfl) (cm rfl ?_))))))
 refine co rfl (ok_indexAddr rfl Tryz.underlying38 sz80 (vl rfl) (vl rfl) (by omega) (row_atI (f := rowG) (by rw [Int.toNat_natCast]; exact hg))) ?_
 refine co rfl (kfa rfl fo80_0 rfl rfl) (co rfl (kl1 rfl one3 rfl) (co rfl (kfa rfl fo41_1 rfl rfl) (co rfl (kl1 rfl one38 rfl) (cm rfl ?_))))
 refine co rfl (ok_indexAddr rfl Tryz.underlying38 sz80 (vl rfl) (vl rfl) (by omega) (row_atI (f := rowG) (by rw [Int.toNat_natCast]; exact hg))) ?_
 refine co rfl (kfa rfl fo80_1 rfl rfl) (co rfl (kl1 rfl one3 rfl) (cm rfl (cm rfl (Ch.nil (Fin.go (wk9 4 10 11 12 20 22 23 96 97 rfl (Tr.seq (Tr.reg1 mixed (by kernel_rfl) (co rfl (kfa rfl fo41_0 rfl rfl) (co rfl (kl1 rfl one37 rfl) (cm rfl (co rfl (ok_indexAddr rfl Tryz.underlying37 sz32 (vl rfl) (vl rfl) (by omega) (row_atI (f := rowEp) hxp)) (co rfl (ok_loadA rfl agg32 sz32 (vl rfl) rfl rfl) ?_)))))))))))))
 refine co rfl (kfa rfl fo41_0 rfl rfl) (co rfl (kl1 rfl one37 rfl) (cm rfl (co rfl (ok_indexAddr rfl Tryz.underlying37 sz32 (vl rfl) (vl rfl) (by omega) (row_atI (f := rowEp) hyp)) (co rfl (ok_loadA rfl agg32 sz32 (vl rfl) rfl rfl) (co rfl (ok_call rfl (w_R9Same) ⟨ke rfl, ke rfl, trivial⟩) (co rfl (ok_not rfl (vl rfl)) (cm rfl ?_)))))))
 refine Ch.cs 176 rfl ?_ ?_ <;> intro h17 q17
 exfalso; simp at h17
 refine cy h17 rfl (kfa rfl fo41_0 rfl rfl) (cy h17 rfl (kl1 rfl one37 rfl) (cym h17 rfl (cy h17 rfl (ok_indexAddr rfl Tryz.underlying37 sz32 (vl rfl) (vl rfl) (by omega) (row_atI (f := rowEp) hxq)) (cy h17 rfl (ok_loadA rfl agg32 sz32 (vl rfl) rfl rfl) (cy h17 rfl (kfa rfl fo41_0 rfl rfl) (cy h17 rfl (kl1 rfl one37 rfl) (cym h17 rfl (cy h17 rfl (ok_indexAddr rfl Tryz.underlying37 sz32 (vl rfl) (vl rfl) (by omega) (row_atI (f := rowEp) hyq)) (cy h17 rfl (ok_loadA rfl agg32 sz32 (vl rfl) rfl rfl) (cy h17 rfl (ok_call rfl (w_R9Same) ⟨ke rfl, ke rfl, trivial⟩) (cy h17 rfl (ok_not rfl (vl rfl)) (co rfl (kpf rfl rfl h17 rfl) (Ch.nil (Fin.go ?_))))))))))))))
 refine wk7 4 10 11 12 96 97 189 rfl ?_
 refine Tr.cn rfl ?_ ?_ <;> intro h18 q18
 exfalso; simp at h18
 refine Tr.skip (Fin.block (Fin.go (Tr.reg0 (cad rfl rfl rfl rfl (by omega) (cm rfl (Ch.nil (Fin.drop 0 (Fin.famD1V0 (k + 1)  (⟨by omega, by omega⟩) ⟨⟨_, rfl, int_succ k⟩, ke rfl, ke rfl, ke rfl, ke rfl, ke rfl, trivial⟩ (fun _ _ h => h)))))))))
 have := h10
 refine Tr.exit (Fin.then_exit (Fin.then_exit (Fin.block_here (Fin.go (Tr.seq (Tr.reg0 (co rfl (ok_call rfl (w_awake25) trivial) (cm rfl (Ch.nil (Fin.go (Tr.ret (Fin.ret1 rfl (OutW.bse _ _) rfl ?_))))))))))))
 · exact Pr.le_refl _
theorem estateCommutes_lifted (os : Os) (started : os.Started) (H : Type) (enc : TypeId × Value → H) :
    ReturnsInHanded {} Tryz.checked os 7 .any (Rows.estateCommutesSpec.pre6 enc Tryz.prog Tryz.f7 Rows.estateCommutesRow.domain false) (Rows.estateCommutesSpec.post enc Tryz.prog Tryz.f7 false true false false) := by
  refine returnsInHanded_of_change (C := Tryz.checked) own0 started (by kernel_rfl) Tryz.func7
    (ChangeSpec.witness6 (enc := enc) (C := Tryz.checked) false ⟨#[], #[.slice none 0 0], []⟩ 8 (by kernel_rfl) (by kernel_rfl) (by kernel_rfl) (by kernel_rfl)) ?_
  intro W base args ds gs before hval0 hW hcnd _
  have hval : ∀ (j : Nat) t v, Tryz.f7.params[j]? = some t → args[j]? = some v → Value.okWide Tryz.prog W .any base t v := hval0
  have hW' := hW
  obtain ⟨p, q, hA0, hV, hpq, hfz, hnd⟩ := hW
  have hA : DataW.TrodAll enc Tryz.prog W 0 (fun _ => true) true Tryz.f7.params.toList args.toList ds p := hA0
  have hA' := hA
  rw [Tryz.params7] at hA hval
  obtain ⟨v0, d0, rfl, rfl, h0⟩ := trodAll_one hA
  obtain ⟨rfl, rfl⟩ := trodVars_none hV
  obtain ⟨a0, hr0, e0⟩ := arg_one (opens_ints Tryz.underlying22 Tryz.underlying3 (by kernel_rfl)) h0 (by obtain ⟨_, _, _, rfl⟩ := okWide_slice Tryz.underlying22 (hval 0 22 v0 rfl rfl); rfl)
  refine ((w_EstateCommutes).2 noM W [v0] (noM_bd W) ⟨e0, trivial⟩).mono fun e W' ⟨v, he, hv, hb⟩ => ?_
  subst he
  obtain rfl : v = .bool true := hv
  exact ⟨_, rfl, law_post laidOut0 (by kernel_rfl) rfl Tryz.underlying4 rfl hA' (by rw [hpq]; simp) hW' rfl hb⟩
theorem estateCommutes_fact_a : (Rows.estateCommutesRow.inPlace == Tryz.pinned.checked.prog.inPlace 7) = true := by kernel_rfl
theorem estateCommutes_fact_b : (Rows.estateCommutesRow.unfollowed == Tryz.pinned.checked.prog.unfollowed 7) = true := by kernel_rfl
theorem estateCommutes_fact_c : (Rows.estateCommutesRow.recurses == Tryz.pinned.checked.prog.recurses 7) = true := by kernel_rfl
theorem estateCommutes_fact_d : (Rows.estateCommutesRow.named == Tryz.pinned.checked.prog.varsNamed 7) = true := by kernel_rfl
theorem estateCommutes_facts : joinedFacts Tryz.pinned.checked.prog 7 Tryz.f7 Rows.estateCommutesSpec Rows.estateCommutesRow = true := by
  unfold joinedFacts
  rw [estateCommutes_fact_a, estateCommutes_fact_b, estateCommutes_fact_c, estateCommutes_fact_d]
  kernel_rfl
theorem estateCommutes_holds : Rows.EstateCommutesSaid :=
  OpenClaim.holds_of_wide 7 Tryz.f7 rfl rfl rfl rfl rfl rfl rfl ⟨rfl, rfl, rfl, rfl, rfl⟩ rfl rfl rfl rfl rfl (by kernel_rfl) Tryz.func7 estateCommutes_facts
    (of_decide_eq_true (by kernel_rfl)) (by unfold Func.isWrapper; first | (rw [if_pos (by decide +kernel)]; kernel_rfl) | (rw [if_neg (by decide +kernel)]; exact ⟨rfl, rfl⟩))
    (fun os started H enc _ => estateCommutes_lifted os started H enc)
end Go.Proofs.YtppeeogffbpcbaaGreat
