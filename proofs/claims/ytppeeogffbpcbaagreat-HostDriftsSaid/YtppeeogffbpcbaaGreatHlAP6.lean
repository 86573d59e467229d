/-
  Part 6 of the texts that prove this claim, merged.
-/
import Derived.Test.YtppeeogffbpcbaaGreatHlAP5
set_option linter.all false
set_option maxRecDepth 40000
set_option maxHeartbeats 16000000
namespace Go.Proofs.YtppeeogffbpcbaaGreat
open Go Go.RowKit Cp Go.Proofs.Tryz
abbrev usR : List Pr := [anyK .i64, anyK .i64]
theorem rep_atI {r : List Pr} {m : Nat} {i : Int} (h : 0 ≤ i ∧ i < (m : Nat)) : (List.replicate m r)[i.toNat]? = some r := by rw [List.getElem?_replicate, if_pos (by omega)]

theorem w_Item {b : Nat} {s : DS} {name : List UInt8}  : FunM prog 67 [ptr b 0, str name] (agg itemR) (diceS b s) (fun _ => diceEx 101 b) := by
 refine FunM.of func67 rfl rfl (by exact Nb rfl) fun M0 w0 S rs M1 w1 => ?_
 have hv3 := s.adv.adv.adv.val_in (n := 3) (by omega)
 refine Tr.seq (Tr.regT ?_)
 refine Tl rfl rfl rfl rfl z107 zo107 (fun b1 => ?_)
 refine TO.nil (Fin.go (Tr.seq (Tr.regT (tm rfl (tm rfl (TO.efc 1 rfl rfl (by decide) (ef_callc rfl rfl (by decide) rfl (w_DNext (by omega) (by omega)) ⟨ke rfl, ke rfl, trivial⟩) (tp rfl (ki rfl rfl rfl rfl) (tm rfl (TO.efc 1 rfl rfl (by decide) (ef_callc rfl rfl (by decide) rfl (w_DNext (by omega) (by omega)) ⟨ke rfl, ke rfl, trivial⟩) (tp rfl (ki rfl rfl rfl rfl) (tp rfl (ok_build (rows := [(0, [_]), (1, [_]), (2, [_])]) rfl bl107 zo107 ⟨⟨rfl, (Vo rfl)⟩, ⟨⟨rfl, (Vo rfl)⟩, ⟨⟨rfl, (Vo rfl)⟩, trivial⟩⟩⟩ rfl) ?_)))))))))))
 refine Tl rfl rfl rfl rfl z107 zo107 (fun b2 => ?_)
 refine TO.store_all 0 rfl rfl rfl (vl rfl) (Va rfl) rfl sz107 rfl rfl (TO.nil (Fin.go (Tr.seq (Tr.regT (tm rfl (TO.efc 2 rfl rfl (by decide) (ef_callc rfl rfl (by decide) rfl (w_DNext (by omega) (by omega)) ⟨ke rfl, ke rfl, trivial⟩) (tm rfl (TO.nil (Fin.go (wk4 0 4 5 6 rfl (Tr.seq (Tr.seq (Tr.regT ?_)))))))))))))
 refine tm rfl (TO.efc 2 rfl rfl (by decide) (ef_callc rfl rfl (by decide) rfl (w_DNext (by omega) (by omega)) ⟨ke rfl, ke rfl, trivial⟩) ?_)
 refine tp rfl (ok_add rfl (vl rfl) (vl rfl) ?hin) ?_; case hin => unfold InI; omega
 refine tm rfl (TO.nil (Fin.go (Tr.block (Tr.reC 0 [anyS, anyK .i64, anyK .i64, andIs (.slice none 0 0) (slice 3 (List.replicate 0 lnkR)), is (.int .i64 0)] rfl ⟨ex_in _ (Lr), is_anyK _ _, is_anyK _ _, own_nil rfl, Lr, trivial⟩ (Tr.addnil 152 3 (Tr.loopD3V1 [(0, _), (4, _), (5, _)] ⟨ke rfl, ke rfl, ke rfl, trivial⟩ (fun (k : Int) (m : Nat) (s2 : DS) v => [(7, int k), (6, anyK .i64)]) (fun (k : Int) (m : Nat) (s2 : DS) v => Hp M0 w0 S (appRes 152 3 v :: cellsRes true b2 107 [anyS, anyK .i64, anyK .i64, andIs v (slice 3 (List.replicate m lnkR)), is (.int .i64 0)] :: cellsRes true b1 107 (([.string (ByteArray.mk #[]), .int .i64 0, .int .i64 0, .slice none 0 0, .int .i64 0] : List Value).map is) :: diceS b s2 :: extRes M1 w1 :: rs)) (fun (k : Int) (m : Nat) (s2 : DS) => 0 ≤ k ∧ k + m ≤ 3 ∧ 1 ≤ k + m) (fun (k : Int) (m : Nat) (s2 : DS) => k.toNat) (_) (0) (_) (.slice none 0 0) (⟨by omega, by omega, by omega⟩) ⟨ke rfl, ⟨_, rfl, is_anyK _ _⟩, trivial⟩ (fun _ _ h => h) ?_))))))
 rintro k m s2 v ⟨hk0, hk1, hk2⟩
 refine Tr.seq (Tr.seq (Tr.reg0 (cm rfl (co rfl (ki rfl rfl rfl rfl) (Ch.nil (Fin.go ?_))))))
 refine Tr.cn rfl ?_ ?_ <;> intro h1 q1
 have hk3 : 0 < k := of_decide_eq_true h1
 have hv6 := s2.val_in (n := 6) (by omega)
 refine Tr.skip (Fin.go (Tr.seq (Tr.block (Tr.seq (Tr.regT (tp rfl (ok_build (rows := [(0, [_])]) rfl bl24 zo24 ⟨⟨rfl, (Vo rfl)⟩, trivial⟩ rfl) (tp rfl (ok_build (rows := [(0, [_])]) rfl bl24 zo24 ⟨⟨rfl, (Vo rfl)⟩, trivial⟩ rfl) (tp rfl (ok_build (rows := [(0, [_]), (1, [_])]) rfl bl24 zo24 ⟨⟨rfl, (Vo rfl)⟩, ⟨⟨rfl, (Vo rfl)⟩, trivial⟩⟩ rfl) (tp rfl (ok_build (rows := [(0, [_]), (1, [_])]) rfl bl24 zo24 ⟨⟨rfl, (Vo rfl)⟩, ⟨⟨rfl, (Vo rfl)⟩, trivial⟩⟩ rfl) (tp rfl (ok_build (rows := [(0, [_])]) rfl bl24 zo24 ⟨⟨rfl, (Vo rfl)⟩, trivial⟩ rfl) (tp rfl (ok_build (rows := [(0, [_]), (1, [_])]) rfl bl24 zo24 ⟨⟨rfl, (Vo rfl)⟩, ⟨⟨rfl, (Vo rfl)⟩, trivial⟩⟩ rfl) (tp rfl (ok_buildSlice (xs := [.tmp 26, .tmp 27, .tmp 28, .tmp 29, .tmp 30, .tmp 31]) (rows := [usR, usR, usR, usR, usR, usR]) rfl rfl underlying114 sz24 z24 rfl (by decide) ⟨⟨(by exact rfl), VL.le (vl rfl) (Pr.le_trans (agg_le (qs := usR) ⟨is_anyK _ _, is_anyK _ _, trivial⟩) (agg_cellsP _))⟩, ⟨⟨(by exact rfl), VL.le (vl rfl) (Pr.le_trans (agg_le (qs := usR) ⟨is_anyK _ _, is_anyK _ _, trivial⟩) (agg_cellsP _))⟩, ⟨⟨(by exact rfl), VL.le (vl rfl) (Pr.le_trans (agg_le (qs := usR) ⟨is_anyK _ _, is_anyK _ _, trivial⟩) (agg_cellsP _))⟩, ⟨⟨(by exact rfl), VL.le (vl rfl) (Pr.le_trans (agg_le (qs := usR) ⟨is_anyK _ _, is_anyK _ _, trivial⟩) (agg_cellsP _))⟩, ⟨⟨(by exact rfl), VL.le (vl rfl) (Pr.le_trans (agg_le (qs := usR) ⟨is_anyK _ _, is_anyK _ _, trivial⟩) (agg_cellsP _))⟩, ⟨⟨(by exact rfl), VL.le (vl rfl) (Pr.le_trans (agg_le (qs := usR) ⟨is_anyK _ _, is_anyK _ _, trivial⟩) (agg_cellsP _))⟩, trivial⟩⟩⟩⟩⟩⟩ (by decide)) ?_))))))))))))
 refine tm rfl (TO.efc 3 rfl rfl (by decide) (ef_callc rfl rfl (by decide) rfl (w_DNext (by omega) (by omega)) ⟨ke rfl, ke rfl, trivial⟩) ?_)
 refine tp rfl (ok_indexAddr rfl underlying114 sz24 (Kf rfl) (vl rfl) (by omega) (show (List.replicate 6 usR)[_]? = _ from rep_atI hv6)) ?_
 refine tp rfl (ok_loadA rfl agg24 sz24 (vl rfl) rfl rfl) ?_
 refine Tl rfl rfl rfl rfl z24 zo24 (fun b3 => ?_)
 refine TO.store_all 0 rfl rfl rfl (vl rfl) (Va rfl) rfl sz24 rfl rfl (TO.freeze 0 8 rfl rfl (TO.nil (Fin.go (wk6 0 4 5 6 7 8 rfl (Tr.seq (Tr.regT (tp rfl (okp_fieldAddr rfl fo107_3 (vl rfl)) (TO.rd 1 rfl rfl rfl (by decide) (rd_load1 rfl one105 (vl rfl) rfl) (tp rfl (ok_loadA rfl agg24 sz24 (vl rfl) rfl rfl) (tm rfl (tp rfl (ok_build (rows := [(0, _), (1, [_])]) rfl bl152 zo152 ⟨⟨rfl, (Va rfl)⟩, ⟨⟨rfl, (Vo rfl)⟩, trivial⟩⟩ rfl) (tp rfl (ok_buildSlice (xs := [.tmp 41]) (rows := [lnkR]) rfl rfl underlying105 sz152 z152 rfl (by decide) ⟨⟨(by exact rfl), VL.le (vl rfl) (Pr.le_trans (Pr.le_of_eq (show agg _ = agg lnkR from rfl)) (agg_cellsP _))⟩, trivial⟩ (by decide)) ?_))))))))))))
 refine TO.efs 0 rfl rfl (by decide) (eApp rfl rfl rfl rfl underlying105 sz152 by152 z152 (Kb rfl) (Kf rfl) (appR_is (by exact List.Mem.head _) (Ka rfl))) (fun v1 => ?_)
 refine tp rfl (okp_fieldAddr rfl fo107_3 (vl rfl)) (TO.ef0 1 rfl rfl (ef_store rfl rfl (vl rfl) (Vo rfl) sz105 rfl (by exact Nb rfl) rfl) (TO.nil (Fin.go (wk5 0 4 5 6 7 rfl (Tr.regT (tm rfl (tp rfl (ok_addK rfl (vl rfl) (VL.le (vl rfl) (is_anyK _ _))) (tm rfl (tp rfl (ok_buildSlice (xs := [.const (.int .i64 (5)), .const (.int .i64 (30)), .const (.int .i64 (0)), .const (.int .i64 (100))]) (rows := [[_], [_], [_], [_]]) rfl rfl underlying22 sz3 z3 rfl (by decide) ⟨⟨(by exact rfl), (Vo rfl)⟩, ⟨⟨(by exact rfl), (Vo rfl)⟩, ⟨⟨(by exact rfl), (Vo rfl)⟩, ⟨⟨(by exact rfl), (Vo rfl)⟩, trivial⟩⟩⟩⟩ (by decide)) ?_)))))))))
 refine TO.efc 3 rfl rfl (by decide) (ef_callc rfl rfl (by decide) rfl (w_DOf (l := [5, 30, 0, 100]) (by simp) (by simp)) ⟨ke rfl, (Kf rfl), trivial⟩) ?_
 refine tp rfl (ok_addK rfl (vl rfl) (VL.le (vl rfl) (is_anyK _ _))) (tm rfl (TO.nil (Fin.block (Fin.go (Tr.reg0 (cm rfl (csu rfl rfl rfl rfl (by omega) (cm rfl (Ch.nil (Fin.reC 1 [anyS, anyK .i64, anyK .i64, andIs v1 (slice 3 (List.replicate (m + 1) lnkR)), is (.int .i64 0)] rfl ⟨Lr, Lr, Lr, own_le (by rw [rep_one]), Lr, trivial⟩ (Fin.famD3V1 (k - 1) (m + 1) (_) v1 (⟨⟨by omega, by omega, by omega⟩, by omega⟩) ⟨⟨_, rfl, int_eq (by omega)⟩, ke rfl, ke rfl, ke rfl, ke rfl, trivial⟩ (fun _ _ h => h))))))))))))
 have hk3 : ¬ 0 < k := of_decide_eq_false h1
 refine Tr.exit (Fin.then_exit (Fin.then_exit (Fin.block_here (Fin.go (Tr.seq (Tr.regX mixed [none, some (0, 1, false, 0), none, none, none, none, none, some (0, 3, true, 0), none, none, some (0, 1, true, 0)] (by kernel_rfl) (xo rfl (fun _ => okp_fieldAddr rfl fo107_3 (vl rfl)) (xrd 1 rfl rfl (rd_load1 rfl one105 (vl rfl) rfl) ?_))))))))
 refine xo rfl (fun _ => ok_indexAddr rfl underlying105 sz152 (Kb rfl) (vl rfl) (by omega) (rep_at (k := 0) (by omega))) ?_
 refine xo rfl (fun _ => kfa rfl fo152_1 rfl rfl) (xo rfl (fun _ => kl1 rfl one3 rfl) (xm rfl (xo rfl (fun _ => ok_buildSlice (xs := [.const (.int .i64 (50)), .const (.int .i64 (300)), .const (.int .i64 (0)), .const (.int .i64 (3000))]) (rows := [[_], [_], [_], [_]]) rfl rfl underlying22 sz3 z3 rfl (by decide) ⟨⟨(by exact rfl), (Vo rfl)⟩, ⟨⟨(by exact rfl), (Vo rfl)⟩, ⟨⟨(by exact rfl), (Vo rfl)⟩, ⟨⟨(by exact rfl), (Vo rfl)⟩, trivial⟩⟩⟩⟩ (by decide)) ?_)))
 refine Cx.ef 3 rfl rfl (by decide) (ef_callc rfl rfl (by decide) rfl (w_DOf (l := [50, 300, 0, 3000]) (by simp) (by simp)) ⟨ke rfl, (Kf rfl), trivial⟩) ?_
 refine xo rfl (fun _ => ok_addK rfl (vl rfl) (VL.le (vl rfl) (is_anyK _ _))) (xo rfl (fun _ => okp_fieldAddr rfl fo107_4 (vl rfl)) (Cx.ef0 1 rfl rfl (ef_store rfl rfl (vl rfl) (Vo rfl) sz3 rfl (by exact Nb rfl) rfl) ?_))
 refine Cx.nil ⟨rfl, ?_⟩
 refine FinX.done (AllC.cons (AllC.cons (AllC.cons (AllC.cons (AllC.cons (AllC.map _)))))) (Fin.go (wk2 4 5 rfl (Tr.seq (Tr.regT (TO.rd 1 rfl rfl rfl (by decide) (rd_loadA rfl agg107 sz107 (vl rfl) rfl rfl) (TO.store_all 2 rfl rfl rfl (vl rfl) (Va rfl) rfl sz107 rfl rfl (TO.nil (Fin.go (Tr.ret (Fin.closeD 3 _ rfl rfl (Fin.retY1 [_, _, _] rfl (RVal.cell 2 rfl rfl agg107 sz107 rfl (Lr)) ?_ (fun _ _ _ _ => rfl))))))))))))
 · exact agg_le ⟨Lr, Lr, Lr, Pr.le_trans (andIs_le _ _) (ex_in m (Lr)), Lr, trivial⟩
def nameL : List (List UInt8) := [[97, 112, 112], [100, 98], [119, 101, 98]]
def optS : List (List Int) := [[10, 8, 2], [8, 2], [2, 10, 8, 3]]
def sOpt (i : Int) : List Int := (optS[i.toNat]?).getD []
theorem sopt_at {i : Int} (h : 0 ≤ i ∧ i < 3) : (optS.map fun l => [ints l])[i.toNat]? = some [ints (sOpt i)] := by
 have hl : i.toNat < optS.length := by show i.toNat < 3; omega
 unfold sOpt
 rw [List.getElem?_map, List.getElem?_eq_getElem hl]; rfl
theorem sopt_mem {i : Int} (h : 0 ≤ i ∧ i < 3) : sOpt i ∈ optS := by
 have hl : i.toNat < optS.length := by show i.toNat < 3; omega
 unfold sOpt
 rw [List.getElem?_eq_getElem hl]; exact List.getElem_mem hl
/-- What such an endpoint is. -/
structure SndE (i : Nat) (e : Ept) : Prop where
 name : nameL[i]? = some e.name
 least : e.least = 1
 most : e.most = 3 ∨ e.most = 4
 suites : e.suites ∈ optS ∨ ∃ l ∈ optS, e.suites = 14 :: l
 ids : ∃ s : Int, (0 ≤ s ∧ s < 4294967296) ∧ e.ids = [leafI e.name 5 2048 (100 + (i : Nat)) 901 1 s]
 anchors : e.anchors = [1]
 hashes : e.hashes = [2, 3]
def SndL (es : List Ept) : Prop := ∀ (i : Nat) e, es[i]? = some e → SndE i e
theorem snd_snoc {es : List Ept} {e : Ept} (h : SndL es) (he : SndE es.length e) : SndL (es ++ [e]) := by
 intro i x hx
 rcases Nat.lt_or_ge i es.length with hi | hi
 · rw [List.getElem?_append_left hi] at hx; exact h i x hx
 ·
  rcases Nat.eq_or_lt_of_le hi with hi | hi
  · subst hi; rw [List.getElem?_append_right (Nat.le_refl _), Nat.sub_self] at hx; simp at hx; subst hx; exact he
  · rw [List.getElem?_eq_none (by simp; omega)] at hx; cases hx
theorem leaf_ok {nm : List UInt8} {k : Nat} (h : nameL[k]? = some nm) {s : Int} (hs : 0 ≤ s ∧ s < 4294967296) {key : Int} (hk : 0 ≤ key ∧ key ≤ 2) : validB (leafC nm 5 2048 (100 + (k : Nat)) 901 key s) = true := by
 have hlt : k < 3 := lt_of_at h
 have hn : named nm = true := by
  have hm := List.mem_of_getElem? h
  revert hm; unfold nameL; intro hm; simp at hm
  rcases hm with rfl | rfl | rfl <;> decide
 refine of_vf ⟨?_, ?_, by show named [114, 111, 111, 116] = true; decide, hn, ?_, by show ofB 5 2048 2 = true; decide +kernel, ?_, ?_, by show ofB 3 0 1 = true; decide +kernel, hk.1, ?_, hs.1, hs.2, by show (0 : Int) ≤ 0; omega, by show (0 : Int) ≤ 901; omega, by show (901 : Int) ≤ 40000; omega, by show (0 : Int) ≤ 0; omega, by show (0 : Int) ≤ 8; omega, .inr rfl⟩
 · show 0 ≤ (100 : Int) + (k : Nat); omega
 · show (100 : Int) + (k : Nat) ≤ _; omega
 ·
  show namesB [nm] = true
  unfold namesB; rw [Bool.and_eq_true]; refine ⟨allI_iff.2 fun j hj => ?_, by simp⟩
  have : j = 0 := by simp at hj; omega
  subst this; unfold nameAt; simp [hn]
 · show 0 ≤ (100 : Int) + (k : Nat); omega
 · show (100 : Int) + (k : Nat) ≤ _; omega
 · show key ≤ _; omega
theorem leaf_tiny {nm : List UInt8} {k : Nat} (h : k < 3) : (leafC nm 5 2048 (100 + (k : Nat)) 901 0 0).tiny :=
 ⟨by show (100 : Int) + (k : Nat) ≤ 40000; omega, by show (100 : Int) + (k : Nat) ≤ 40000; omega, ⟨by show (0 : Int) ≤ 5; omega, by show (5 : Int) ≤ 40000; omega⟩, ⟨by show (0 : Int) ≤ 2048; omega, by show (2048 : Int) ≤ 40000; omega⟩, ⟨by show (0 : Int) ≤ 3; omega, by show (3 : Int) ≤ 40000; omega⟩, ⟨by show (0 : Int) ≤ 0; omega, by show (0 : Int) ≤ 40000; omega⟩⟩
theorem take_get {β : Type} {l : List β} {n k : Nat} {x : β} (h : (l.take n)[k]? = some x) : l[k]? = some x := by
 have hlt := lt_of_at h
 rw [List.length_take] at hlt
 rw [List.getElem?_take, if_pos (by omega)] at h; exact h
theorem sopt_len (i : Int) : (sOpt i).length ≤ 4 := by
 unfold sOpt
 cases h : optS[i.toNat]? with
 | none => show 0 ≤ 4; omega
 | some l =>
  have hm := List.mem_of_getElem? h
  show l.length ≤ 4
  unfold optS at hm; simp at hm
  rcases hm with rfl | rfl | rfl <;> simp
theorem of_334 (s : DS) : s.of [3, 3, 4] = 3 ∨ s.of [3, 3, 4] = 4 := by have := s.of_mem (l := [3, 3, 4]) (by simp); simp at this; exact this
abbrev edR : List Pr := [anyK .i64, anyK .i64]
abbrev sndP (es : List Ept) : Pr := agg [slice 9 (es.map rowEp), (Cp.ex fun m : Nat => slice 2 (List.replicate m edR)), (Cp.ex fun m : Nat => slice 5 (List.replicate m itemR))]

theorem w_Sound {b : Nat} {s : DS}  : FunM prog 13 [ptr b 0] (Cp.ex fun es : List Ept => fact ((2 ≤ es.length ∧ es.length ≤ 3) ∧ SndL es) (sndP es)) (diceS b s) (fun _ => diceEx 101 b) := by
 refine FunM.of func13 rfl rfl (by exact Nb rfl) fun M0 w0 S rs M1 w1 => ?_
 have hv2 := s.val_in (n := 2) (by omega)
 have hnl : (nameL.take (2 + s.val 2).toNat).length = (2 + s.val 2).toNat := by rw [List.length_take]; show min _ 3 = _; omega
 refine Tr.seq (Tr.regT ?_)
 refine Tl rfl rfl rfl rfl z41 zo41 (fun b1 => ?_)
 refine TO.nil (Fin.go (Tr.seq (Tr.regT ?_)))
 refine Tl rfl rfl rfl rfl z41 zo41 (fun b2 => ?_)
 refine TO.nil (Fin.go (Tr.seq (Tr.regT (tp rfl (ok_buildSlice (xs := [.const (.string ⟨[97, 112, 112].toArray⟩), .const (.string ⟨[100, 98].toArray⟩), .const (.string ⟨[119, 101, 98].toArray⟩)]) (rows := [[_], [_], [_]]) rfl rfl underlying74 sz9 z9 rfl (by decide) ⟨⟨(by exact rfl), (Vo rfl)⟩, ⟨⟨(by exact rfl), (Vo rfl)⟩, ⟨⟨(by exact rfl), (Vo rfl)⟩, trivial⟩⟩⟩ (by decide)) ?_))))
 refine tm rfl (TO.efc 2 rfl rfl (by decide) (ef_callc rfl rfl (by decide) rfl (w_DNext (by omega) (by omega)) ⟨ke rfl, ke rfl, trivial⟩) ?_)
 refine tp rfl (ok_add rfl (vl rfl) (vl rfl) ?hin) ?_; case hin => unfold InI; omega
 refine tp rfl (ok_sliceTo rfl underlying74 sz9 (Kf rfl) (vl rfl) (by omega) (by simp; omega)) ?_
 refine tm rfl (TO.nil (Fin.go (Tr.seq (Tr.seq (Tr.reg0 (cm rfl (co rfl (ok_len rfl underlying74 (vl rfl)) (cm rfl (Ch.nil (Fin.go (Tr.block ?_)))))))))))
 refine Tr.re 16 rfl (Pr.le_of_eq (by show slice 1 (List.take _ (nameL.map fun t => [str t])) = _; rw [← List.map_take]) : Pr.le _ (txts (nameL.take (2 + s.val 2).toNat))) ?_
 refine Tr.re 17 rfl (int_eq (by simp; rfl) : Pr.le _ (int (((nameL.take (2 + s.val 2).toNat).length : Nat) : Int))) ?_
 refine Tr.reC 0 [andIs (.slice none 0 0) (slice 9 (([] : List Ept).map rowEp)), is (.slice none 0 0), is (.slice none 0 0)] rfl ⟨own_nil rfl, Lr, Lr, trivial⟩ (Tr.addnil 32 9 (Tr.loopD3V1 [(0, _), (2, _), (3, _), (4, _), (16, _), (17, _)] ⟨ke rfl, ke rfl, ke rfl, ke rfl, ke rfl, ke rfl, trivial⟩ (fun (k : Nat) (es : List Ept) (s2 : DS) v => [(18, int ((k : Nat) : Int))]) (fun (k : Nat) (es : List Ept) (s2 : DS) v => Hp M0 w0 S (appRes 32 9 v :: cellsRes true b2 41 [andIs v (slice 9 (es.map rowEp)), is (.slice none 0 0), is (.slice none 0 0)] :: cellsRes true b1 41 (([.slice none 0 0, .slice none 0 0, .slice none 0 0] : List Value).map is) :: diceS b s2 :: extRes M1 w1 :: rs)) (fun (k : Nat) (es : List Ept) (s2 : DS) => k ≤ (2 + s.val 2).toNat ∧ es.length = k ∧ SndL es) (fun (k : Nat) (es : List Ept) (s2 : DS) => (2 + s.val 2).toNat - k) (0) ([]) (_) (.slice none 0 0) (⟨by omega, rfl, fun i e h => by simp at h⟩) ⟨ke rfl, trivial⟩ (fun _ _ h => h) ?_))
 rintro k es s2 v ⟨hk1, hk2, hk3⟩
 refine Tr.seq (Tr.reg0 (co rfl (ki rfl rfl rfl rfl) (Ch.nil (Fin.go (Tr.seq ?_)))))
 refine Tr.cn rfl ?_ ?_ <;> intro h1 q1
 have hkn : k < (2 + s.val 2).toNat := by have := Nrm.nrm h1; rw [hnl] at this; omega
 obtain ⟨nm, hnm⟩ := at_ (l := nameL.take (2 + s.val 2).toNat) (k := k) (by omega)
 have hnm2 : nameL[k]? = some nm := take_get hnm
 have hso := sopt_len (s2.adv.val 3)
 have hk3_ : k < 3 := lt_of_at hnm2
 have hvs := s2.adv.val_in (n := 3) (by omega)
 have hof := of_334 s2
 refine Tr.skip (Fin.go (Tr.seq (Tr.block (Tr.seq (Tr.reg0 (cm rfl (co rfl (ok_indexAddr rfl underlying74 sz9 (vl rfl) (vl rfl) (by omega) (row_at hnm)) (co rfl (kl1 rfl one9 rfl) (cm rfl (cm rfl (Ch.nil (Fin.go (Tr.seq (Tr.pad ?_))))))))))))))
 refine Tr.regX mixed [none, none, none, some (0, 4, true, 0), none, none, none, none, none, some (0, 4, true, 0), none, none, none, some (0, 4, true, 0), none, none, none, some (0, 4, true, 0), none, some (0, 0, true, 7), some (7, 0, true, 7)] (by kernel_rfl) (xm rfl (xm rfl (xo rfl (fun _ => ok_buildSlice (xs := [.const (.int .i64 (3)), .const (.int .i64 (3)), .const (.int .i64 (4))]) (rows := [[_], [_], [_]]) rfl rfl underlying22 sz3 z3 rfl (by decide) ⟨⟨(by exact rfl), (Vo rfl)⟩, ⟨⟨(by exact rfl), (Vo rfl)⟩, ⟨⟨(by exact rfl), (Vo rfl)⟩, trivial⟩⟩⟩ (by decide)) ?_)))
 refine Cx.ef 4 rfl rfl (by decide) (ef_callc rfl rfl (by decide) rfl (w_DOf (l := [3, 3, 4]) (by simp) (by simp)) ⟨ke rfl, (Kf rfl), trivial⟩) ?_
 refine xo rfl (fun _ => ok_buildSlice (xs := [.const (.int .i64 (10)), .const (.int .i64 (8)), .const (.int .i64 (2))]) (rows := [[_], [_], [_]]) rfl rfl underlying22 sz3 z3 rfl (by decide) ⟨⟨(by exact rfl), (Vo rfl)⟩, ⟨⟨(by exact rfl), (Vo rfl)⟩, ⟨⟨(by exact rfl), (Vo rfl)⟩, trivial⟩⟩⟩ (by decide)) ?_
 refine xo rfl (fun _ => ok_buildSlice (xs := [.const (.int .i64 (8)), .const (.int .i64 (2))]) (rows := [[_], [_]]) rfl rfl underlying22 sz3 z3 rfl (by decide) ⟨⟨(by exact rfl), (Vo rfl)⟩, ⟨⟨(by exact rfl), (Vo rfl)⟩, trivial⟩⟩ (by decide)) ?_
 refine xo rfl (fun _ => ok_buildSlice (xs := [.const (.int .i64 (2)), .const (.int .i64 (10)), .const (.int .i64 (8)), .const (.int .i64 (3))]) (rows := [[_], [_], [_], [_]]) rfl rfl underlying22 sz3 z3 rfl (by decide) ⟨⟨(by exact rfl), (Vo rfl)⟩, ⟨⟨(by exact rfl), (Vo rfl)⟩, ⟨⟨(by exact rfl), (Vo rfl)⟩, ⟨⟨(by exact rfl), (Vo rfl)⟩, trivial⟩⟩⟩⟩ (by decide)) ?_
 refine xo rfl (fun _ => ok_buildSlice (xs := [.tmp 27, .tmp 28, .tmp 29]) (rows := [[_], [_], [_]]) rfl rfl underlying102 sz22 z22 rfl (by decide) ⟨⟨(by exact rfl), ⟨_, rfl, Pr.le_trans (full_le _ _) (one_cellsP _)⟩⟩, ⟨⟨(by exact rfl), ⟨_, rfl, Pr.le_trans (full_le _ _) (one_cellsP _)⟩⟩, ⟨⟨(by exact rfl), ⟨_, rfl, Pr.le_trans (full_le _ _) (one_cellsP _)⟩⟩, trivial⟩⟩⟩ (by decide)) ?_
 refine xm rfl (Cx.ef 4 rfl rfl (by decide) (ef_callc rfl rfl (by decide) rfl (w_DNext (by omega) (by omega)) ⟨ke rfl, ke rfl, trivial⟩) ?_)
 refine xo rfl (fun _ => ok_indexAddr rfl underlying102 sz22 (Kf rfl) (vl rfl) (by omega) (show (optS.map fun l => [ints l])[_]? = _ from sopt_at hvs)) ?_
 refine xo rfl (fun _ => kl1 rfl one22 rfl) (xm rfl (Cx.ef 4 rfl rfl (by decide) (ef_callc rfl rfl (by decide) rfl (w_DOne (by omega) (by omega)) ⟨ke rfl, ke rfl, trivial⟩) (xo rfl (fun _ => ok_buildSlice (xs := [.const (.int .i64 (1))]) (rows := [[_]]) rfl rfl underlying22 sz3 z3 rfl (by decide) ⟨⟨(by exact rfl), (Vo rfl)⟩, trivial⟩ (by decide)) ?_)))
 refine xo rfl (fun _ => ok_buildSlice (xs := [.const (.int .i64 (2)), .const (.int .i64 (3))]) (rows := [[_], [_]]) rfl rfl underlying22 sz3 z3 rfl (by decide) ⟨⟨(by exact rfl), (Vo rfl)⟩, ⟨⟨(by exact rfl), (Vo rfl)⟩, trivial⟩⟩ (by decide)) ?_
 refine xm rfl (Cx.ef 4 rfl rfl (by decide) (ef_callc rfl rfl (by decide) rfl (w_DOne (by omega) (by omega)) ⟨ke rfl, ke rfl, trivial⟩) (xo rfl (fun _ => ok_build (rows := [(0, [_]), (1, [_]), (2, [_]), (3, [_]), (4, [_]), (6, [_]), (7, [_]), (8, [_])]) rfl bl32 zo32 ⟨⟨rfl, (Vo rfl)⟩, ⟨⟨rfl, (Vo rfl)⟩, ⟨⟨rfl, (Vo rfl)⟩, ⟨⟨rfl, (Vo rfl)⟩, ⟨⟨rfl, (Vo rfl)⟩, ⟨⟨rfl, ⟨_, rfl, Pr.le_trans (full_le _ _) (one_cellsP _)⟩⟩, ⟨⟨rfl, ⟨_, rfl, Pr.le_trans (full_le _ _) (one_cellsP _)⟩⟩, ⟨⟨rfl, (Vo rfl)⟩, trivial⟩⟩⟩⟩⟩⟩⟩⟩ rfl) (Cx.ef 0 rfl rfl (by decide) (ef_allocX rfl rfl (by decide) rfl z32 zo32) (Cx.ef0 0 rfl rfl (ef_storeX rfl rfl rfl rfl (Va rfl) sz32 rfl rfl) ?_))))
 refine Cx.nil ⟨rfl, ?_⟩
 refine FinX.open_ 0 7 rfl rfl (fun v1 => ?_)
 refine FinX.done (AllC.cons (AllC.cons (AllC.cons (AllC.cons (AllC.cons (AllC.cons (AllC.map _))))))) (Fin.opn 7 0 _ rfl rfl (fun _ => rfl) (fun b3 => ?_))
 refine Fin.go (wk10 0 2 3 4 5 6 7 16 17 18 rfl (Tr.seq (Tr.seq (Tr.reC 0 [str nm, int 1, int (s2.of [3, 3, 4]), ints (sOpt (s2.adv.val 3)), bool (s2.adv.adv.val 2 == 2 - 1), is (.slice none 0 0), ints [1], ints [2, 3], bool (s2.adv.adv.adv.val 3 == 3 - 1)] rfl ⟨Lr, Lr, Lr, Lr, Lr, Lr, Lr, Lr, Lr, trivial⟩ (Tr.reg0 (co rfl (okp_fieldAddr rfl fo32_2 (vl rfl)) (co rfl (ok_rd 0 rfl (rd_load1 rfl one3 (vl rfl) rfl)) (co rfl (ki rfl rfl rfl rfl) (Ch.nil (Fin.go ?_))))))))))
 refine Tr.cn rfl ?_ ?_ <;> intro h2 q2
 refine Tr.regT (tp rfl (ok_buildSlice (xs := [.const (.int .i64 (14))]) (rows := [[_]]) rfl rfl underlying22 sz3 z3 rfl (by decide) ⟨⟨(by exact rfl), (Vo rfl)⟩, trivial⟩ (by decide)) ?_)
 refine tp rfl (okp_fieldAddr rfl fo32_3 (vl rfl)) (TO.rd 0 rfl rfl rfl (by decide) (rd_load1 rfl one22 (vl rfl) rfl) (TO.pad ?_))
 refine TO.efs 0 rfl rfl (by decide) (eApp rfl rfl rfl rfl underlying22 sz3 by3 z3 (Kf rfl) (vl rfl) (appR_full (by exact List.Mem.head _) (vl rfl))) (fun v2 => ?_)
 refine tp rfl (okp_fieldAddr rfl fo32_3 (vl rfl)) (TO.ef0 1 rfl rfl (ef_store rfl rfl (vl rfl) (Vo rfl) sz22 rfl (by exact Nb rfl) rfl) (TO.nil (Fin.go (wk10 0 2 3 4 5 6 7 16 17 18 rfl (Tr.seq (Tr.regT (tm rfl (tp rfl (ok_call rfl (w_RSA) trivial) (tm rfl ?_)))))))))
 refine tp rfl (ok_add rfl (vl rfl) (vl rfl) ?hin) ?_; case hin => unfold InI; omega
 refine tp rfl (ok_call rfl (w_Leaf (name := nm) (a := 5) (b := 2048) (id := 100 + (k : Nat)) (to := 901) (key := 1) (leaf_ok hnm2 (by omega) (by omega)) (leaf_tiny (by omega)) (by omega)) ⟨ke rfl, ke rfl, ke rfl, ke rfl, ke rfl, trivial⟩) ?_
 refine TO.ex 54 rfl (fun z54 => TO.fact 54 rfl fun hz54 => ?_)
 refine tp rfl (ok_buildSlice (xs := [.tmp 54]) (rows := [_]) rfl rfl underlying30 sz27 z27 rfl (by decide) ⟨⟨(by exact rfl), (Va rfl)⟩, trivial⟩ (by decide)) ?_
 refine tp rfl (okp_fieldAddr rfl fo32_5 (vl rfl)) (TO.ef0 1 rfl rfl (ef_store rfl rfl (vl rfl) (Vo rfl) sz30 rfl (by exact Nb rfl) rfl) (TO.nil (Fin.go (wk8 0 2 3 4 7 16 17 18 rfl (Tr.regT (tp rfl (okp_fieldAddr rfl fo41_0 (vl rfl)) (TO.rd 3 rfl rfl rfl (by decide) (rd_load1 rfl one37 (vl rfl) rfl) (TO.rd 1 rfl rfl rfl (by decide) (rd_loadA rfl agg32 sz32 (vl rfl) rfl rfl) (tp rfl (ok_buildSlice (xs := [.tmp 59]) (rows := [rowEp (⟨nm, 1, s2.of [3, 3, 4], 14 :: sOpt (s2.adv.val 3), (s2.adv.adv.val 2 == 2 - 1), [leafI nm 5 2048 (100 + (k : Nat)) 901 1 z54], [1], [2, 3], (s2.adv.adv.adv.val 3 == 3 - 1)⟩ : Ept)]) rfl rfl underlying37 sz32 z32 rfl (by decide) ⟨⟨(by exact rfl), VL.le (vl rfl) (Pr.le_trans (agg_le (qs := rowEp (⟨nm, 1, s2.of [3, 3, 4], 14 :: sOpt (s2.adv.val 3), (s2.adv.adv.val 2 == 2 - 1), [leafI nm 5 2048 (100 + (k : Nat)) 901 1 z54], [1], [2, 3], (s2.adv.adv.adv.val 3 == 3 - 1)⟩ : Ept)) ⟨Lr, Lr, Lr, Pr.le_trans (andIs_le _ _) (Pr.le_of_eq rfl), Lr, full_le _ _, Lr, Lr, Lr, trivial⟩) (agg_cellsP _))⟩, trivial⟩ (by decide)) ?_)))))))))
 refine TO.efs 2 rfl rfl (by decide) (eApp rfl rfl rfl rfl underlying37 sz32 by32 z32 (Kb rfl) (Kf rfl) (appR_is (by exact List.Mem.head _) (Ka rfl))) (fun v3 => ?_)
 refine tp rfl (okp_fieldAddr rfl fo41_0 (vl rfl)) (TO.ef0 3 rfl rfl (ef_store rfl rfl (vl rfl) (Vo rfl) sz37 rfl (by exact Nb rfl) rfl) (TO.nil (Fin.block (Fin.go (Tr.drop 1 (wk7 0 2 3 4 16 17 18 rfl (Tr.reg0 (cad rfl rfl rfl rfl (by omega) (cm rfl (Ch.nil ?_))))))))))
 refine Fin.reC 2 [andIs v3 (slice 9 ((es ++ [(⟨nm, 1, s2.of [3, 3, 4], 14 :: sOpt (s2.adv.val 3), (s2.adv.adv.val 2 == 2 - 1), [leafI nm 5 2048 (100 + (k : Nat)) 901 1 z54], [1], [2, 3], (s2.adv.adv.adv.val 3 == 3 - 1)⟩ : Ept)]).map rowEp)), is (.slice none 0 0), is (.slice none 0 0)] rfl ⟨own_le (by rw [List.map_append]; rfl), Lr, Lr, trivial⟩ ?_
 refine Fin.drop 0 ?_
 exact Fin.famD3V1 (k + 1) (es ++ [(⟨nm, 1, s2.of [3, 3, 4], 14 :: sOpt (s2.adv.val 3), (s2.adv.adv.val 2 == 2 - 1), [leafI nm 5 2048 (100 + (k : Nat)) 901 1 z54], [1], [2, 3], (s2.adv.adv.adv.val 3 == 3 - 1)⟩ : Ept)]) (_) v3 (⟨⟨by omega, by rw [List.length_append, hk2]; rfl, snd_snoc hk3 ⟨by rw [hk2]; exact hnm2, rfl, hof, .inr ⟨_, sopt_mem hvs, rfl⟩, ⟨z54, hz54, by rw [hk2]⟩, rfl, rfl⟩⟩, by omega⟩) ⟨⟨_, rfl, int_succ k⟩, ke rfl, ke rfl, ke rfl, ke rfl, ke rfl, ke rfl, trivial⟩ (fun _ _ h => h)
 refine Tr.skip (Fin.go (Tr.seq (Tr.regT (tm rfl (tp rfl (ok_call rfl (w_RSA) trivial) (tm rfl ?_))))))
 refine tp rfl (ok_add rfl (vl rfl) (vl rfl) ?hin) ?_; case hin => unfold InI; omega
 refine tp rfl (ok_call rfl (w_Leaf (name := nm) (a := 5) (b := 2048) (id := 100 + (k : Nat)) (to := 901) (key := 1) (leaf_ok hnm2 (by omega) (by omega)) (leaf_tiny (by omega)) (by omega)) ⟨ke rfl, ke rfl, ke rfl, ke rfl, ke rfl, trivial⟩) ?_
 refine TO.ex 54 rfl (fun z54 => TO.fact 54 rfl fun hz54 => ?_)
 refine tp rfl (ok_buildSlice (xs := [.tmp 54]) (rows := [_]) rfl rfl underlying30 sz27 z27 rfl (by decide) ⟨⟨(by exact rfl), (Va rfl)⟩, trivial⟩ (by decide)) ?_
 refine tp rfl (okp_fieldAddr rfl fo32_5 (vl rfl)) (TO.ef0 0 rfl rfl (ef_store rfl rfl (vl rfl) (Vo rfl) sz30 rfl (by exact Nb rfl) rfl) (TO.nil (Fin.go (wk8 0 2 3 4 7 16 17 18 rfl (Tr.regT (tp rfl (okp_fieldAddr rfl fo41_0 (vl rfl)) (TO.rd 2 rfl rfl rfl (by decide) (rd_load1 rfl one37 (vl rfl) rfl) (TO.rd 0 rfl rfl rfl (by decide) (rd_loadA rfl agg32 sz32 (vl rfl) rfl rfl) (tp rfl (ok_buildSlice (xs := [.tmp 59]) (rows := [rowEp (⟨nm, 1, s2.of [3, 3, 4], sOpt (s2.adv.val 3), (s2.adv.adv.val 2 == 2 - 1), [leafI nm 5 2048 (100 + (k : Nat)) 901 1 z54], [1], [2, 3], (s2.adv.adv.adv.val 3 == 3 - 1)⟩ : Ept)]) rfl rfl underlying37 sz32 z32 rfl (by decide) ⟨⟨(by exact rfl), VL.le (vl rfl) (Pr.le_trans (agg_le (qs := rowEp (⟨nm, 1, s2.of [3, 3, 4], sOpt (s2.adv.val 3), (s2.adv.adv.val 2 == 2 - 1), [leafI nm 5 2048 (100 + (k : Nat)) 901 1 z54], [1], [2, 3], (s2.adv.adv.adv.val 3 == 3 - 1)⟩ : Ept)) ⟨Lr, Lr, Lr, Lr, Lr, full_le _ _, Lr, Lr, Lr, trivial⟩) (agg_cellsP _))⟩, trivial⟩ (by decide)) ?_)))))))))
 refine TO.efs 1 rfl rfl (by decide) (eApp rfl rfl rfl rfl underlying37 sz32 by32 z32 (Kb rfl) (Kf rfl) (appR_is (by exact List.Mem.head _) (Ka rfl))) (fun v4 => ?_)
 refine tp rfl (okp_fieldAddr rfl fo41_0 (vl rfl)) (TO.ef0 2 rfl rfl (ef_store rfl rfl (vl rfl) (Vo rfl) sz37 rfl (by exact Nb rfl) rfl) (TO.nil (Fin.block (Fin.go (Tr.drop 0 (wk7 0 2 3 4 16 17 18 rfl (Tr.reg0 (cad rfl rfl rfl rfl (by omega) (cm rfl (Ch.nil ?_))))))))))
 refine Fin.reC 1 [andIs v4 (slice 9 ((es ++ [(⟨nm, 1, s2.of [3, 3, 4], sOpt (s2.adv.val 3), (s2.adv.adv.val 2 == 2 - 1), [leafI nm 5 2048 (100 + (k : Nat)) 901 1 z54], [1], [2, 3], (s2.adv.adv.adv.val 3 == 3 - 1)⟩ : Ept)]).map rowEp)), is (.slice none 0 0), is (.slice none 0 0)] rfl ⟨own_le (by rw [List.map_append]; rfl), Lr, Lr, trivial⟩ ?_
 exact Fin.famD3V1 (k + 1) (es ++ [(⟨nm, 1, s2.of [3, 3, 4], sOpt (s2.adv.val 3), (s2.adv.adv.val 2 == 2 - 1), [leafI nm 5 2048 (100 + (k : Nat)) 901 1 z54], [1], [2, 3], (s2.adv.adv.adv.val 3 == 3 - 1)⟩ : Ept)]) (_) v4 (⟨⟨by omega, by rw [List.length_append, hk2]; rfl, snd_snoc hk3 ⟨by rw [hk2]; exact hnm2, rfl, hof, .inl (sopt_mem hvs), ⟨z54, hz54, by rw [hk2]⟩, rfl, rfl⟩⟩, by omega⟩) ⟨⟨_, rfl, int_succ k⟩, ke rfl, ke rfl, ke rfl, ke rfl, ke rfl, ke rfl, trivial⟩ (fun _ _ h => h)
 have hke : k = (2 + s.val 2).toNat := by have := Nrm.nrm h1; rw [hnl] at this; omega
 refine Tr.exit (Fin.then_exit (Fin.then_exit (Fin.block_here (Fin.go (Tr.seq (Tr.seq (Tr.reC 1 [slice 9 (es.map rowEp), is (.slice none 0 0), is (.slice none 0 0)] rfl ⟨andIs_le _ _, Lr, Lr, trivial⟩ (Tr.drop 0 (Tr.reg0 (cm rfl (co rfl (ok_len rfl underlying74 (vl rfl)) (cm rfl (Ch.nil (Fin.go ?_))))))))))))))
 refine Tr.block ?_
 refine Tr.re 65 rfl (int_eq (by simp; rfl) : Pr.le _ (int (((nameL.take (2 + s.val 2).toNat).length : Nat) : Int))) ?_
 refine Tr.reC 0 [slice 9 (es.map rowEp), andIs (.slice none 0 0) (slice 2 (List.replicate 0 edR)), is (.slice none 0 0)] rfl ⟨Lr, own_nil rfl, Lr, trivial⟩ (Tr.addnil 80 2 (Tr.loopD3V1 [(0, _), (2, _), (3, _), (4, _), (65, _)] ⟨ke rfl, ke rfl, ke rfl, ke rfl, ke rfl, trivial⟩ (fun (i : Nat) (m : Nat) (s3 : DS) w => [(66, int ((i : Nat) : Int))]) (fun (i : Nat) (m : Nat) (s3 : DS) w => Hp M0 w0 S (appRes 80 2 w :: cellsRes true b2 41 [slice 9 (es.map rowEp), andIs w (slice 2 (List.replicate m edR)), is (.slice none 0 0)] :: cellsRes true b1 41 (([.slice none 0 0, .slice none 0 0, .slice none 0 0] : List Value).map is) :: diceS b s3 :: extRes M1 w1 :: rs)) (fun (i : Nat) (m : Nat) (s3 : DS) => i ≤ (2 + s.val 2).toNat ∧ m ≤ 3) (fun (i : Nat) (m : Nat) (s3 : DS) => (2 + s.val 2).toNat - i) (0) (0) (_) (.slice none 0 0) (⟨by omega, by omega⟩) ⟨ke rfl, trivial⟩ (fun _ _ h => h) ?_))
 rintro i m s3 w ⟨hi1, hi2⟩
 refine Tr.seq (Tr.reg0 (co rfl (ki rfl rfl rfl rfl) (Ch.nil (Fin.go (Tr.seq ?_)))))
 refine Tr.cn rfl ?_ ?_ <;> intro h3 q3
 have hin : i < (2 + s.val 2).toNat := by have := Nrm.nrm h3; rw [hnl] at this; omega
 refine Tr.skip (Fin.go (Tr.seq (Tr.block (Tr.seq (Tr.reg0 (cm rfl (cm rfl (Ch.nil (Fin.go (Tr.seq (Tr.reg0 (cm rfl (co rfl (ok_len rfl underlying74 (vl rfl)) ?_)))))))))))))
 refine cm rfl (Ch.nil (Fin.go (Tr.block ?_)))
 refine Tr.re 70 rfl (int_eq (by simp; rfl) : Pr.le _ (int (((nameL.take (2 + s.val 2).toNat).length : Nat) : Int))) ?_
 refine Tr.loopD3V1 [(0, _), (2, _), (3, _), (4, _), (8, _), (65, _), (66, _), (70, _)] ⟨ke rfl, ke rfl, ke rfl, ke rfl, ke rfl, ke rfl, ke rfl, ke rfl, trivial⟩ (fun (j : Nat) (m3 : Nat) (s4 : DS) u => [(71, int ((j : Nat) : Int))]) (fun (j : Nat) (m3 : Nat) (s4 : DS) u => Hp M0 w0 S (appRes 80 2 u :: cellsRes true b2 41 [slice 9 (es.map rowEp), andIs u (slice 2 (List.replicate m3 edR)), is (.slice none 0 0)] :: cellsRes true b1 41 (([.slice none 0 0, .slice none 0 0, .slice none 0 0] : List Value).map is) :: diceS b s4 :: extRes M1 w1 :: rs)) (fun (j : Nat) (m3 : Nat) (s4 : DS) => j ≤ (2 + s.val 2).toNat ∧ m3 ≤ 3) (fun (j : Nat) (m3 : Nat) (s4 : DS) => (2 + s.val 2).toNat - j) (0) (m) (_) w (⟨by omega, by omega⟩) ⟨ke rfl, trivial⟩ (fun _ _ h => h) ?_
 rintro j m3 s4 u ⟨hj1, hj2⟩
 refine Tr.seq (Tr.reg0 (co rfl (ki rfl rfl rfl rfl) (Ch.nil (Fin.go (Tr.seq ?_)))))
 refine Tr.cn rfl ?_ ?_ <;> intro h4 q4
 have hjn : j < (2 + s.val 2).toNat := by have := Nrm.nrm h4; rw [hnl] at this; omega
 have hlm : (List.replicate m3 edR).length = m3 := List.length_replicate
 refine Tr.skip (Fin.go (Tr.seq (Tr.block (Tr.seq (Tr.reg0 (cm rfl (cm rfl (Ch.nil (Fin.go (Tr.seq (Tr.regT (tm rfl (tm rfl ?_)))))))))))))
 refine tp rfl (ki rfl rfl rfl rfl) (tm rfl ?_)
 refine TO.cases 77 rfl (fun h5 => ?_) (fun h5 => ?_)
 have q5 := Nrm.nrm h5
 refine TO.opG rfl rfl rfl h5 rfl (by decide) (ok_move rfl (vl rfl)) (TO.efcG 3 rfl rfl rfl h5 rfl rfl (by decide) (ef_callc rfl rfl (by decide) rfl (w_DNext (by omega) (by omega)) ⟨ke rfl, ke rfl, trivial⟩) (TO.opG rfl rfl rfl h5 rfl (by decide) (ki rfl rfl rfl rfl) (tp rfl (kpt rfl rfl h5 rfl) (tm rfl ?_))))
 refine TO.cases 82 rfl (fun h6 => ?_) (fun h6 => ?_)
 have q6 := Nrm.nrm h6
 refine TO.opG rfl rfl rfl h6 rfl (by decide) (okp_fieldAddr rfl fo41_1 (vl rfl)) (TO.opG rfl rfl rfl h6 rfl (by decide) (ok_rd 1 rfl (rd_load1 rfl one38 (vl rfl) rfl)) (TO.opG rfl rfl rfl h6 rfl (by decide) (ok_len rfl underlying38 (Kb rfl)) (TO.opG rfl rfl rfl h6 rfl (by decide) (ki rfl rfl rfl rfl) (tp rfl (kpt rfl rfl h6 rfl) (TO.nil (Fin.go (wk11 0 2 3 4 8 9 65 66 70 71 87 rfl ?_)))))))
 refine Tr.cn rfl ?_ ?_ <;> intro h7 q7
 refine Tr.regT (tp rfl (okp_fieldAddr rfl fo41_1 (vl rfl)) (TO.rd 1 rfl rfl rfl (by decide) (rd_load1 rfl one38 (vl rfl) rfl) (tm rfl (tm rfl (tp rfl (ok_build (rows := [(0, [_]), (1, [_])]) rfl bl80 zo80 ⟨⟨rfl, (Vo rfl)⟩, ⟨⟨rfl, (Vo rfl)⟩, trivial⟩⟩ rfl) (tp rfl (ok_buildSlice (xs := [.tmp 92]) (rows := [edR]) rfl rfl underlying38 sz80 z80 rfl (by decide) ⟨⟨(by exact rfl), VL.le (vl rfl) (Pr.le_trans (agg_le (qs := edR) ⟨is_anyK _ _, is_anyK _ _, trivial⟩) (agg_cellsP _))⟩, trivial⟩ (by decide)) ?_))))))
 refine TO.efs 0 rfl rfl (by decide) (eApp rfl rfl rfl rfl underlying38 sz80 by80 z80 (Kb rfl) (Kf rfl) (appR_is (by exact List.Mem.head _) (Ka rfl))) (fun v5 => ?_)
 refine tp rfl (okp_fieldAddr rfl fo41_1 (vl rfl)) (TO.ef0 1 rfl rfl (ef_store rfl rfl (vl rfl) (Vo rfl) sz38 rfl (by exact Nb rfl) rfl) (TO.nil (Fin.block (Fin.go (wk9 0 2 3 4 8 65 66 70 71 rfl (Tr.reg0 (cad rfl rfl rfl rfl (by omega) (cm rfl (Ch.nil (Fin.reC 1 [slice 9 (es.map rowEp), andIs v5 (slice 2 (List.replicate (m3 + 1) edR)), is (.slice none 0 0)] rfl ⟨Lr, own_le (by rw [rep_one]), Lr, trivial⟩ (Fin.famD3V1 (j + 1) (m3 + 1) (_) v5 (⟨⟨by omega, by omega⟩, by omega⟩) ⟨⟨_, rfl, int_succ j⟩, ke rfl, ke rfl, ke rfl, ke rfl, ke rfl, ke rfl, ke rfl, ke rfl, trivial⟩ (fun _ _ h => h))))))))))))
 refine Tr.skip (Fin.block (Fin.go (Tr.reg0 (cad rfl rfl rfl rfl (by omega) (cm rfl (Ch.nil (Fin.famD3V1 (j + 1) (m3) (_) u (⟨⟨by omega, by omega⟩, by omega⟩) ⟨⟨_, rfl, int_succ j⟩, ke rfl, ke rfl, ke rfl, ke rfl, ke rfl, ke rfl, ke rfl, ke rfl, trivial⟩ (fun _ _ h => h))))))))
 have q6 := Nrm.nrm h6
 iterate 4 refine TO.noG rfl rfl rfl (ne_true h6) rfl (by decide) ?_
 refine tp rfl (kpf rfl rfl h6 rfl) (TO.nil (Fin.go (wk11 0 2 3 4 8 9 65 66 70 71 87 rfl (Tr.cond rfl (fun h => nomatch h) (fun _ => ?_)))))
 refine Tr.skip (Fin.block (Fin.go (Tr.reg0 (cad rfl rfl rfl rfl (by omega) (cm rfl (Ch.nil (Fin.famD3V1 (j + 1) (m3) (_) u (⟨⟨by omega, by omega⟩, by omega⟩) ⟨⟨_, rfl, int_succ j⟩, ke rfl, ke rfl, ke rfl, ke rfl, ke rfl, ke rfl, ke rfl, ke rfl, trivial⟩ (fun _ _ h => h))))))))
 have q5 := Nrm.nrm h5
 refine TO.noG rfl rfl rfl (ne_true h5) rfl (by decide) (TO.noG rfl rfl rfl (ne_true h5) rfl (by decide) (TO.noG rfl rfl rfl (ne_true h5) rfl (by decide) (tp rfl (kpf rfl rfl h5 rfl) (tm rfl ?_))))
 iterate 4 refine TO.noG rfl rfl rfl (ne_true rfl) rfl (by decide) ?_
 refine tp rfl (kpf rfl rfl rfl rfl) (TO.nil (Fin.go (wk11 0 2 3 4 8 9 65 66 70 71 87 rfl (Tr.cond rfl (fun h => nomatch h) (fun _ => ?_)))))
 refine Tr.skip (Fin.block (Fin.go (Tr.reg0 (cad rfl rfl rfl rfl (by omega) (cm rfl (Ch.nil (Fin.famD3V1 (j + 1) (m3) (_) u (⟨⟨by omega, by omega⟩, by omega⟩) ⟨⟨_, rfl, int_succ j⟩, ke rfl, ke rfl, ke rfl, ke rfl, ke rfl, ke rfl, ke rfl, ke rfl, trivial⟩ (fun _ _ h => h))))))))
 have hje : j = (2 + s.val 2).toNat := by have := Nrm.nrm h4; rw [hnl] at this; omega
 refine Tr.exit (Fin.then_exit (Fin.then_exit (Fin.block_here (Fin.block (Fin.go (Tr.reg0 (cad rfl rfl rfl rfl (by omega) (cm rfl (Ch.nil (Fin.famD3V1 (i + 1) (m3) (_) u (⟨⟨by omega, by omega⟩, by omega⟩) ⟨⟨_, rfl, int_succ i⟩, ke rfl, ke rfl, ke rfl, ke rfl, ke rfl, trivial⟩ (fun _ _ h => h)))))))))))
 have hie : i = (2 + s.val 2).toNat := by have := Nrm.nrm h3; rw [hnl] at this; omega
 refine Tr.exit (Fin.then_exit (Fin.then_exit (Fin.block_here (Fin.go (Tr.seq (Tr.seq (Tr.reg0 (co rfl (okp_fieldAddr rfl fo41_1 (vl rfl)) (co rfl (ok_rd 1 rfl (rd_load1 rfl one38 (vl rfl) rfl)) (co rfl (ok_len rfl underlying38 (Kb rfl)) (co rfl (ki rfl rfl rfl rfl) (Ch.nil (Fin.go ?_)))))))))))))
 refine Tr.cn rfl ?_ ?_ <;> intro h8 q8
 refine Tr.regT (tp rfl (ok_build (rows := [(0, [_]), (1, [_])]) rfl bl80 zo80 ⟨⟨rfl, (Vo rfl)⟩, ⟨⟨rfl, (Vo rfl)⟩, trivial⟩⟩ rfl) (tp rfl (ok_buildSlice (xs := [.tmp 102]) (rows := [edR]) rfl rfl underlying38 sz80 z80 rfl (by decide) ⟨⟨(by exact rfl), VL.le (vl rfl) (Pr.le_trans (agg_le (qs := edR) ⟨is_anyK _ _, is_anyK _ _, trivial⟩) (agg_cellsP _))⟩, trivial⟩ (by decide)) ?_))
 refine tp rfl (okp_fieldAddr rfl fo41_1 (vl rfl)) (TO.ef0 1 rfl rfl (ef_store rfl rfl (vl rfl) (Vo rfl) sz38 rfl (by exact Nb rfl) rfl) (TO.nil (Fin.go (wk3 0 2 3 rfl (Tr.seq (Tr.seq ?_))))))
 have hv9 := s3.val_in (n := 3) (by omega)
 refine Tr.reC 1 [slice 9 (es.map rowEp), (Cp.ex fun m : Nat => slice 2 (List.replicate m edR)), is (.slice none 0 0)] rfl ⟨Lr, ex_in 1 (full_le _ _), Lr, trivial⟩ (Tr.drop 0 (Tr.regT (tm rfl (TO.efc 2 rfl rfl (by decide) (ef_callc rfl rfl (by decide) rfl (w_DNext (by omega) (by omega)) ⟨ke rfl, ke rfl, trivial⟩) (tm rfl (TO.nil (Fin.go (Tr.block (Tr.reC 0 [slice 9 (es.map rowEp), (Cp.ex fun m : Nat => slice 2 (List.replicate m edR)), andIs (.slice none 0 0) (slice 5 (List.replicate 0 itemR))] rfl ⟨Lr, Lr, own_nil rfl, trivial⟩ (Tr.addnil 107 5 (Tr.loopD3V1 [(0, _), (2, _), (3, _)] ⟨ke rfl, ke rfl, ke rfl, trivial⟩ (fun (q : Int) (mi : Nat) (s5 : DS) x => [(10, int q)]) (fun (q : Int) (mi : Nat) (s5 : DS) x => Hp M0 w0 S (appRes 107 5 x :: cellsRes true b2 41 [slice 9 (es.map rowEp), (Cp.ex fun m : Nat => slice 2 (List.replicate m edR)), andIs x (slice 5 (List.replicate mi itemR))] :: cellsRes true b1 41 (([.slice none 0 0, .slice none 0 0, .slice none 0 0] : List Value).map is) :: diceS b s5 :: extRes M1 w1 :: rs)) (fun (q : Int) (mi : Nat) (s5 : DS) => 0 ≤ q ∧ q + mi ≤ 3) (fun (q : Int) (mi : Nat) (s5 : DS) => q.toNat) (_) (0) (_) (.slice none 0 0) (⟨by omega, by omega⟩) ⟨ke rfl, trivial⟩ (fun _ _ h => h) ?_)))))))))))
 rintro q mi s5 x ⟨hq1, hq2⟩
 refine Tr.seq (Tr.seq (Tr.reg0 (cm rfl (co rfl (ki rfl rfl rfl rfl) (Ch.nil (Fin.go ?_))))))
 refine Tr.cn rfl ?_ ?_ <;> intro h9 q9
 have hq3 : 0 < q := of_decide_eq_true h9
 refine Tr.skip (Fin.go (Tr.seq (Tr.block (Tr.pad (Tr.regX mixed [none, some (0, 2, false, 0), none, none, none, some (0, 4, true, 0), some (0, 4, true, 0), none, some (0, 1, true, 119), none, some (0, 2, true, 119)] (by kernel_rfl) (xo rfl (fun _ => okp_fieldAddr rfl fo41_2 (vl rfl)) (xrd 2 rfl rfl (rd_load1 rfl one39 (vl rfl) rfl) (xm rfl (xm rfl (xo rfl (fun _ => ok_buildSlice (xs := [.const (.string ⟨[98, 97, 99, 107, 117, 112].toArray⟩), .const (.string ⟨[100, 101, 101, 100].toArray⟩)]) (rows := [[_], [_]]) rfl rfl underlying74 sz9 z9 rfl (by decide) ⟨⟨(by exact rfl), (Vo rfl)⟩, ⟨⟨(by exact rfl), (Vo rfl)⟩, trivial⟩⟩ (by decide)) ?_))))))))))
 refine Cx.ef 4 rfl rfl (by decide) (ef_callc rfl rfl (by decide) rfl (w_DWordE (l := [[98, 97, 99, 107, 117, 112], [100, 101, 101, 100]]) (by simp) (by simp)) ⟨ke rfl, (Kf rfl), trivial⟩) ?_
 refine Cx.ef 4 rfl rfl (by decide) (ef_callc rfl rfl (by decide) rfl (w_Item) ⟨ke rfl, ke rfl, trivial⟩) (xo rfl (fun _ => ok_buildSlice (xs := [.tmp 117]) (rows := [_]) rfl rfl underlying39 sz107 z107 rfl (by decide) ⟨⟨(by exact rfl), (Va rfl)⟩, trivial⟩ (by decide)) ?_)
 refine Cx.ef 1 rfl rfl (by decide) (eApp rfl rfl rfl rfl underlying39 sz107 by107 z107 (Kb rfl) (Kf rfl) (appR_is (by exact List.Mem.head _) (Ka rfl))) ?_
 refine xo rfl (fun _ => okp_fieldAddr rfl fo41_2 (vl rfl)) (Cx.ef0 2 rfl rfl (ef_storeS rfl rfl rfl (vl rfl) rfl sz39 (by exact Nb rfl)) ?_)
 refine Cx.nil ⟨rfl, ?_⟩
 refine FinX.open2 1 2 119 rfl rfl (by decide) rfl (fun v6 => ?_)
 refine FinX.done (AllC.cons (AllC.cons (AllC.cons (AllC.cons (AllC.cons (AllC.cons (AllC.map _))))))) (Fin.openD 4 rfl (fun s1 => ?_))
 refine Fin.block (Fin.go (Tr.drop 0 (wk4 0 2 3 10 rfl (Tr.reg0 (cm rfl (csu rfl rfl rfl rfl (by omega) (cm rfl (Ch.nil (Fin.reC 1 [slice 9 (es.map rowEp), (Cp.ex fun m : Nat => slice 2 (List.replicate m edR)), andIs v6 (slice 5 (List.replicate (mi + 1) itemR))] rfl ⟨Lr, Lr, own_le (by rw [rep_one]), trivial⟩ (Fin.famD3V1 (q - 1) (mi + 1) (_) v6 (⟨⟨by omega, by omega⟩, by omega⟩) ⟨⟨_, rfl, int_eq (by omega)⟩, ke rfl, ke rfl, ke rfl, trivial⟩ (fun _ _ h => h)))))))))))
 have hq3 : ¬ 0 < q := of_decide_eq_false h9
 refine Tr.exit (Fin.then_exit (Fin.then_exit (Fin.block_here (Fin.go (Tr.seq (Tr.regT (TO.rd 1 rfl rfl rfl (by decide) (rd_loadA rfl agg41 sz41 (vl rfl) rfl rfl) (TO.store_all 2 rfl rfl rfl (vl rfl) (Va rfl) rfl sz41 rfl rfl (TO.nil (Fin.go (Tr.ret (Fin.closeD 3 _ rfl rfl (Fin.retY1 [_, _, _] rfl (RVal.cell 2 rfl rfl agg41 sz41 rfl (Lr)) ?_ (fun _ _ _ _ => rfl))))))))))))))
 · exact ex_in es (fact_in ⟨⟨by omega, by omega⟩, hk3⟩ (agg_le ⟨Lr, Lr, Pr.le_trans (andIs_le _ _) (ex_in mi (Lr)), trivial⟩))
 refine Tr.skip (Fin.go (Tr.seq (Tr.seq ?_)))
 have hv9 := s3.val_in (n := 3) (by omega)
 refine Tr.reC 1 [slice 9 (es.map rowEp), (Cp.ex fun m : Nat => slice 2 (List.replicate m edR)), is (.slice none 0 0)] rfl ⟨Lr, Pr.le_trans (andIs_le _ _) (ex_in m (Lr)), Lr, trivial⟩ (Tr.drop 0 (Tr.regT (tm rfl (TO.efc 2 rfl rfl (by decide) (ef_callc rfl rfl (by decide) rfl (w_DNext (by omega) (by omega)) ⟨ke rfl, ke rfl, trivial⟩) (tm rfl (TO.nil (Fin.go (wk4 0 2 3 10 rfl (Tr.block (Tr.reC 0 [slice 9 (es.map rowEp), (Cp.ex fun m : Nat => slice 2 (List.replicate m edR)), andIs (.slice none 0 0) (slice 5 (List.replicate 0 itemR))] rfl ⟨Lr, Lr, own_nil rfl, trivial⟩ (Tr.addnil 107 5 (Tr.loopD3V1 [(0, _), (2, _), (3, _)] ⟨ke rfl, ke rfl, ke rfl, trivial⟩ (fun (q : Int) (mi : Nat) (s5 : DS) x => [(10, int q)]) (fun (q : Int) (mi : Nat) (s5 : DS) x => Hp M0 w0 S (appRes 107 5 x :: cellsRes true b2 41 [slice 9 (es.map rowEp), (Cp.ex fun m : Nat => slice 2 (List.replicate m edR)), andIs x (slice 5 (List.replicate mi itemR))] :: cellsRes true b1 41 (([.slice none 0 0, .slice none 0 0, .slice none 0 0] : List Value).map is) :: diceS b s5 :: extRes M1 w1 :: rs)) (fun (q : Int) (mi : Nat) (s5 : DS) => 0 ≤ q ∧ q + mi ≤ 3) (fun (q : Int) (mi : Nat) (s5 : DS) => q.toNat) (_) (0) (_) (.slice none 0 0) (⟨by omega, by omega⟩) ⟨ke rfl, trivial⟩ (fun _ _ h => h) ?_))))))))))))
 rintro q mi s5 x ⟨hq1, hq2⟩
 refine Tr.seq (Tr.seq (Tr.reg0 (cm rfl (co rfl (ki rfl rfl rfl rfl) (Ch.nil (Fin.go ?_))))))
 refine Tr.cn rfl ?_ ?_ <;> intro h10 q10
 have hq3 : 0 < q := of_decide_eq_true h10
 refine Tr.skip (Fin.go (Tr.seq (Tr.block (Tr.pad (Tr.regX mixed [none, some (0, 2, false, 0), none, none, none, some (0, 4, true, 0), some (0, 4, true, 0), none, some (0, 1, true, 119), none, some (0, 2, true, 119)] (by kernel_rfl) (xo rfl (fun _ => okp_fieldAddr rfl fo41_2 (vl rfl)) (xrd 2 rfl rfl (rd_load1 rfl one39 (vl rfl) rfl) (xm rfl (xm rfl (xo rfl (fun _ => ok_buildSlice (xs := [.const (.string ⟨[98, 97, 99, 107, 117, 112].toArray⟩), .const (.string ⟨[100, 101, 101, 100].toArray⟩)]) (rows := [[_], [_]]) rfl rfl underlying74 sz9 z9 rfl (by decide) ⟨⟨(by exact rfl), (Vo rfl)⟩, ⟨⟨(by exact rfl), (Vo rfl)⟩, trivial⟩⟩ (by decide)) ?_))))))))))
 refine Cx.ef 4 rfl rfl (by decide) (ef_callc rfl rfl (by decide) rfl (w_DWordE (l := [[98, 97, 99, 107, 117, 112], [100, 101, 101, 100]]) (by simp) (by simp)) ⟨ke rfl, (Kf rfl), trivial⟩) ?_
 refine Cx.ef 4 rfl rfl (by decide) (ef_callc rfl rfl (by decide) rfl (w_Item) ⟨ke rfl, ke rfl, trivial⟩) (xo rfl (fun _ => ok_buildSlice (xs := [.tmp 117]) (rows := [_]) rfl rfl underlying39 sz107 z107 rfl (by decide) ⟨⟨(by exact rfl), (Va rfl)⟩, trivial⟩ (by decide)) ?_)
 refine Cx.ef 1 rfl rfl (by decide) (eApp rfl rfl rfl rfl underlying39 sz107 by107 z107 (Kb rfl) (Kf rfl) (appR_is (by exact List.Mem.head _) (Ka rfl))) ?_
 refine xo rfl (fun _ => okp_fieldAddr rfl fo41_2 (vl rfl)) (Cx.ef0 2 rfl rfl (ef_storeS rfl rfl rfl (vl rfl) rfl sz39 (by exact Nb rfl)) ?_)
 refine Cx.nil ⟨rfl, ?_⟩
 refine FinX.open2 1 2 119 rfl rfl (by decide) rfl (fun v7 => ?_)
 refine FinX.done (AllC.cons (AllC.cons (AllC.cons (AllC.cons (AllC.cons (AllC.cons (AllC.map _))))))) (Fin.openD 4 rfl (fun s2 => ?_))
 refine Fin.block (Fin.go (Tr.drop 0 (wk4 0 2 3 10 rfl (Tr.reg0 (cm rfl (csu rfl rfl rfl rfl (by omega) (cm rfl (Ch.nil (Fin.reC 1 [slice 9 (es.map rowEp), (Cp.ex fun m : Nat => slice 2 (List.replicate m edR)), andIs v7 (slice 5 (List.replicate (mi + 1) itemR))] rfl ⟨Lr, Lr, own_le (by rw [rep_one]), trivial⟩ (Fin.famD3V1 (q - 1) (mi + 1) (_) v7 (⟨⟨by omega, by omega⟩, by omega⟩) ⟨⟨_, rfl, int_eq (by omega)⟩, ke rfl, ke rfl, ke rfl, trivial⟩ (fun _ _ h => h)))))))))))
 have hq3 : ¬ 0 < q := of_decide_eq_false h10
 refine Tr.exit (Fin.then_exit (Fin.then_exit (Fin.block_here (Fin.go (Tr.seq (Tr.regT (TO.rd 1 rfl rfl rfl (by decide) (rd_loadA rfl agg41 sz41 (vl rfl) rfl rfl) (TO.store_all 2 rfl rfl rfl (vl rfl) (Va rfl) rfl sz41 rfl rfl (TO.nil (Fin.go (Tr.ret (Fin.closeD 3 _ rfl rfl (Fin.retY1 [_, _, _] rfl (RVal.cell 2 rfl rfl agg41 sz41 rfl (Lr)) ?_ (fun _ _ _ _ => rfl))))))))))))))
 · exact ex_in es (fact_in ⟨⟨by omega, by omega⟩, hk3⟩ (agg_le ⟨Lr, Lr, Pr.le_trans (andIs_le _ _) (ex_in mi (Lr)), trivial⟩))
abbrev sndS : List (List Int) := optS ++ optS.map (14 :: ·)
theorem sndE_suites {i : Nat} {e : Ept} (h : SndE i e) : e.suites ∈ sndS := by
 rcases h.suites with h | ⟨l, h, h2⟩
 · exact List.mem_append_left _ h
 · rw [h2]; exact List.mem_append_right _ (List.mem_map_of_mem h)
theorem sndS_ok : ∀ l ∈ sndS, suitesB l = true ∧ l.length ≤ 5 := by decide +kernel
theorem name_ok : ∀ n ∈ nameL, wordB n = true ∧ n.length ≤ 3 := by decide +kernel
theorem hash_ok : [2, 3].all hashB = true := by decide +kernel
theorem of_rsa2 : ofB 5 2048 2 = true := by decide +kernel
theorem leaf_idB {nm : List UInt8} {k : Nat} {id : Int} (h : nameL[k]? = some nm) (hid : id = 100 + (k : Nat)) {s : Int} (hs : 0 ≤ s ∧ s < 4294967296) : idB (leafI nm 5 2048 id 901 1 s) = true := by
 subst hid
 have hk : k < 3 := lt_of_at h
 have hv := leaf_ok h hs (key := 1) (by omega)
 have hk2 : keyB (100 + (k : Nat)) = true := by unfold keyB; simp; omega
 unfold idB showsB; simp only [of_rsa2, hk2, List.all_cons, List.all_nil, hv]; simp
theorem sndE_ok {i : Nat} {e : Ept} (h : SndE i e) : EptOk e := by
 have hn := name_ok _ (List.mem_of_getElem? h.name)
 have hs := sndS_ok _ (sndE_suites h)
 obtain ⟨s, hs1, hs2⟩ := h.ids
 have hm := h.most; have hl := h.least
 refine ⟨hn.1, by omega, by omega, by omega, hs.1, by rw [hs2]; simp, by rw [h.anchors]; simp, by rw [h.anchors]; decide, by rw [h.hashes]; decide, ?_, by rw [h.anchors]; decide, by rw [h.hashes]; exact hash_ok⟩
 rw [hs2]; simp only [List.all_cons, List.all_nil, leaf_idB h.name rfl hs1, Bool.and_self]
theorem sndE_fits {i : Nat} {e : Ept} (h : SndE i e) : e.fits := by
 have hn := name_ok _ (List.mem_of_getElem? h.name)
 obtain ⟨s, hs1, hs2⟩ := h.ids
 refine ⟨by unfold maxLen; omega, fun x hx c hc => ?_⟩
 rw [hs2] at hx; simp at hx; subst hx; simp at hc; subst hc
 exact ⟨by show 4 ≤ maxLen; unfold maxLen; omega, by show e.name.length ≤ maxLen; unfold maxLen; omega, fun n hn2 => by simp at hn2; subst hn2; unfold maxLen; omega⟩
theorem sndE_small {i : Nat} {e : Ept} (h : SndE i e) : e.small := by
 have hs := sndS_ok _ (sndE_suites h)
 obtain ⟨s, hs1, hs2⟩ := h.ids
 refine ⟨by omega, by rw [h.anchors]; simp, by rw [h.hashes]; simp, by rw [hs2]; simp, fun x hx => ?_⟩
 rw [hs2] at hx; simp at hx; subst hx
 exact ⟨by simp, fun c hc => by simp at hc; subst hc; simp⟩
theorem id0_fits : zeroId.fits := fun c hc => by cases hc
theorem abrow {v : Int} (h : 0 ≤ v ∧ v < 2) : ([[int 7, int 256], [int 5, int 2048]] : List (List Pr))[v.toNat]? = some [int (if v = 0 then 7 else 5), int (if v = 0 then 256 else 2048)] := by
 have : v = 0 ∨ v = 1 := by omega
 rcases this with rfl | rfl <;> rfl
theorem abok (v : Int) : ((if v = 0 then 7 else 5 : Int) = 5 ∧ (if v = 0 then 256 else 2048 : Int) = 2048) ∨ ((if v = 0 then 7 else 5 : Int) = 7 ∧ (if v = 0 then 256 else 2048 : Int) = 256) := by split <;> simp
theorem leafV {nm : List UInt8} (h : nm ∈ nameL) {a b id key s : Int} (hab : (a = 5 ∧ b = 2048) ∨ (a = 7 ∧ b = 256)) (hid : 0 ≤ id ∧ id ≤ 1000) (hs : 0 ≤ s ∧ s < 4294967296) (hk : 0 ≤ key ∧ key ≤ 2) : validB (leafC nm a b id 901 key s) = true := by
 have hn : named nm = true := by
  revert h; unfold nameL; intro hm; simp at hm
  rcases hm with rfl | rfl | rfl <;> decide
 have hof : ofB a b 2 = true := by rcases hab with ⟨rfl, rfl⟩ | ⟨rfl, rfl⟩ <;> decide +kernel
 refine of_vf ⟨?_, ?_, by show named [114, 111, 111, 116] = true; decide, hn, ?_, hof, ?_, ?_, by show ofB 3 0 1 = true; decide +kernel, hk.1, ?_, hs.1, hs.2, by show (0 : Int) ≤ 0; omega, by show (0 : Int) ≤ 901; omega, by show (901 : Int) ≤ 40000; omega, by show (0 : Int) ≤ 0; omega, by show (0 : Int) ≤ 8; omega, .inr rfl⟩
 · show 0 ≤ id; omega
 · show id ≤ _; omega
 ·
  show namesB [nm] = true
  unfold namesB; rw [Bool.and_eq_true]; refine ⟨allI_iff.2 fun j hj => ?_, by simp⟩
  have : j = 0 := by simp at hj; omega
  subst this; unfold nameAt; simp [hn]
 · show 0 ≤ id; omega
 · show id ≤ _; omega
 · show key ≤ _; omega
theorem leafT {nm : List UInt8} {a b id : Int} (hab : (a = 5 ∧ b = 2048) ∨ (a = 7 ∧ b = 256)) (hid : 0 ≤ id ∧ id ≤ 1000) : (leafC nm a b id 901 0 0).tiny :=
 ⟨by show id ≤ 40000; omega, by show id ≤ 40000; omega, ⟨by show (0 : Int) ≤ a; omega, by show a ≤ 40000; omega⟩, ⟨by show (0 : Int) ≤ b; omega, by show b ≤ 40000; omega⟩, ⟨by show (0 : Int) ≤ 3; omega, by show (3 : Int) ≤ 40000; omega⟩, ⟨by show (0 : Int) ≤ 0; omega, by show (0 : Int) ≤ 40000; omega⟩⟩
/-- A change of one of these endpoints. -/
structure AnyP (es : List Ept) (c : Chg) : Prop where
 lo : 0 ≤ c.endpoint
 hi : c.endpoint < (es.length : Nat)
 kind : 1 ≤ c.kind ∧ c.kind ≤ 12
 fits : c.idn.fits
 small : c.idn.small
abbrev sumP (nm : List UInt8) (a b id to key : Int) : Pr := Cp.ex fun s : Int => fact (0 ≤ s ∧ s < 4294967296) (certs [leafC nm a b id to key s])
theorem leaf_cells {nm : List UInt8} {a b id to key : Int} : (leafE nm a b id to key).le (cellsP [int a, int b, int id, sumP nm a b id to key]) := by
 intro M w v ⟨s, hs, hv⟩
 exact (agg_cellsP [int a, int b, int id, sumP nm a b id to key]) M w v (agg_le (ps := rowId (leafI nm a b id to key s)) (qs := [int a, int b, int id, sumP nm a b id to key]) ⟨Pr.le_refl _, Pr.le_refl _, Pr.le_refl _, fun M w v h => ⟨s, hs, h⟩, trivial⟩ M w v hv)
theorem hl_exL {β : Type} {f : β → Pr} {M : Av} {w : World} : ∀ {ps : List Pr} {cs : List Value}, HL M w (ps ++ [Cp.ex f]) cs → ∃ s, HL M w (ps ++ [f s]) cs
 | [], [c], h => by obtain ⟨⟨s, hs⟩, h2⟩ := h; exact ⟨s, hs, h2⟩
 | [], [], h => h.elim
 | [], _ :: _ :: _, h => h.2.elim
 | p :: ps, [], h => h.elim
 | p :: ps, c :: cs, h => by obtain ⟨s, hs⟩ := hl_exL (ps := ps) (cs := cs) h.2; exact ⟨s, h.1, hs⟩
theorem hl_factL {φ : Prop} {p0 : Pr} {M : Av} {w : World} : ∀ {ps : List Pr} {cs : List Value}, HL M w (ps ++ [fact φ p0]) cs → HL M w (ps ++ [p0]) cs
 | [], [c], h => ⟨h.1.2, h.2⟩
 | [], [], h => h.elim
 | [], _ :: _ :: _, h => h.2.elim
 | p :: ps, [], h => h.elim
 | p :: ps, c :: cs, h => ⟨h.1, hl_factL (ps := ps) (cs := cs) h.2⟩
theorem any_leaf {es : List Ept} {p0 p1 p2 p3 : Int} {nm : List UInt8} {a b id key : Int} (h : ∀ s : Int, AnyP es ⟨p0, p1, p2, p3, leafI nm a b id 901 key s⟩) : (agg [int p0, int p1, int p2, int p3, int a, int b, int id, sumP nm a b id 901 key]).le (Cp.ex fun c : Chg => fact (AnyP es c) (agg (rowChg c))) := by
 intro M w v ⟨cs, h1, h2, h3⟩
 obtain ⟨s, h4⟩ := hl_exL (ps := [int p0, int p1, int p2, int p3, int a, int b, int id]) h3
 exact ⟨⟨p0, p1, p2, p3, leafI nm a b id 901 key s⟩, h s, cs, h1, h2, hl_factL (ps := [int p0, int p1, int p2, int p3, int a, int b, int id]) h4⟩
theorem leafF {nm : List UInt8} (h : nm ∈ nameL) {a b id key s : Int} : (leafI nm a b id 901 key s).fits ∧ (leafI nm a b id 901 key s).small := by
 have hn := (name_ok _ h).2
 refine ⟨fun c hc => ?_, ⟨by simp, fun c hc => by simp at hc; subst hc; simp⟩⟩
 simp at hc; subst hc
 exact ⟨by show 4 ≤ maxLen; unfold maxLen; omega, by show nm.length ≤ maxLen; unfold maxLen; omega, fun n hn2 => by simp at hn2; subst hn2; unfold maxLen; omega⟩

theorem w_Any {b : Nat} {s : DS} {es : List Ept} {p1 p2 : Pr} (hs : SndL es) (hl : 1 ≤ es.length ∧ es.length ≤ 3) : FunM prog 16 [ptr b 0, agg [slice 9 (es.map rowEp), p1, p2]] (Cp.ex fun c : Chg => fact (AnyP es c) (agg (rowChg c))) (diceS b s) (fun _ => diceEx 101 b) := by
 refine FunM.of func16 rfl rfl (by exact Nb rfl) fun M0 w0 S rs M1 w1 => ?_
 have hv := s.val_in (n := es.length) (by omega)
 obtain ⟨e, he⟩ := at_ (l := es) (k := (s.val es.length).toNat) (by omega)
 have hse := hs _ e he
 have hnm := List.mem_of_getElem? hse.name
 have hsl := (sndS_ok _ (sndE_suites hse)).2
 obtain ⟨y0, hy0⟩ : ∃ y0, e.ids = [y0] := by obtain ⟨s_, _, h_⟩ := hse.ids; exact ⟨_, h_⟩
 have hil : e.ids.length = 1 := by rw [hy0]; rfl
 have hv2 := s.adv.val_in (n := 12) (by omega)
 have hv3 := s.adv.adv.val_in (n := 16) (by omega)
 have hv4 := s.adv.adv.val_in (n := 4) (by omega)
 have hv5 := s.adv.adv.val_in (n := 3) (by omega)
 have hv6 := s.adv.adv.adv.val_in (n := 2) (by omega)
 have hv7 := s.adv.adv.adv.adv.val_in (n := 3) (by omega)
 have hv8 := s.adv.adv.adv.adv.adv.val_in (n := 2) (by omega)
 refine Tr.seq (Tr.regT (tp rfl (ok_box rfl (Va rfl)) ?_))
 refine Tl rfl rfl rfl rfl z29 zo29 (fun b1 => ?_)
 refine ao ?_
 refine ao ?_
 refine TO.efc 1 rfl rfl (by decide) (ef_callc rfl rfl (by decide) rfl (w_DNext (by omega) (by omega)) ⟨ke rfl, ke rfl, trivial⟩) ?_
 refine ao ?_
 refine ao ?_
 refine tp rfl (ok_indexAddr rfl underlying37 sz32 (vl rfl) (vl rfl) (by omega) (row_atI he)) (tp rfl (ok_loadA rfl agg32 sz32 (vl rfl) rfl rfl) ?_)
 refine Tl rfl rfl rfl rfl z32 zo32 (fun b2 => ?_)
 refine sf 0 6 ⟨rfl, rfl, rfl⟩ rfl rfl rfl rfl ?_
 refine ao ?_
 refine wk4 0 4 5 6 rfl ?_
 refine ao ?_
 refine TO.efc 1 rfl rfl (by decide) (ef_callc rfl rfl (by decide) rfl (w_DNext (by omega) (by omega)) ⟨ke rfl, ke rfl, trivial⟩) ?_
 refine ao ?_
 refine Tl rfl rfl rfl rfl z29 zo29 (fun b3 => ?_)
 refine TO.store_all 0 rfl rfl rfl (vl rfl) (Va rfl) rfl sz29 rfl rfl ?_
 refine ao ?_
 refine a2 ?_
 refine wk6 0 4 6 7 24 25 rfl ?_
 refine Tr.cn rfl ?_ ?_ <;> intro h1 q1
 refine Tr.rx (xm rfl (Cx.ef 2 rfl rfl (by decide) (ef_callc rfl rfl (by decide) rfl (w_DNext (by omega) (by omega)) ⟨ke rfl, ke rfl, trivial⟩) ?_))
 refine ay ?_
 refine Cx.ef 2 rfl rfl (by decide) (ef_callc rfl rfl (by decide) rfl (w_DNext (by omega) (by omega)) ⟨ke rfl, ke rfl, trivial⟩) ?_
 refine ay ?_
 refine Cx.nil ⟨by kernel_rfl, ?_⟩
 refine FinX.done al4 ?_
 refine ac ?_
 refine wk2 4 7 rfl ?_
 refine ao ?_
 refine TO.store_all 1 rfl rfl rfl (vl rfl) (Va rfl) rfl sz29 rfl rfl ?_
 refine ao ?_
 refine Tr.drop 0 (Tr.ret (Fin.closeD 1 _ rfl rfl (Fin.retY1 [_] rfl (RVal.cell 0 rfl rfl agg29 sz29 rfl (Lr)) ?_ (fun _ _ _ _ => rfl))))
 · (refine ex_in ⟨_, _, _, _, zeroId⟩ (fact_in ?_ (agg_le ⟨Lr, Lr, Lr, Lr, Lr, Lr, Lr, nil_slice 15, trivial⟩)); exact ⟨hv.1, hv.2, ⟨by show 1 ≤ 1 + _; omega, by show 1 + _ ≤ 12; omega⟩, id0_fits, id0_small⟩)
 refine an ?_ ?_ <;> intro h2 q2
 refine ao ?_
 refine TO.efc 2 rfl rfl (by decide) (ef_callc rfl rfl (by decide) rfl (w_DNext (by omega) (by omega)) ⟨ke rfl, ke rfl, trivial⟩) ?_
 refine ao ?_
 refine TO.ef0 0 rfl rfl (ef_store rfl rfl (vl rfl) (Vo rfl) sz3 rfl (by exact Nb rfl) rfl) ?_
 refine ao ?_
 refine ao ?_
 refine TO.cases 48 rfl (fun h3 => ?_) (fun h3 => ?_)
 have q3 := Nrm.nrm h3
 refine TO.opG rfl rfl rfl h3 rfl (by decide) (ok_move rfl (vl rfl)) (TO.efcG 2 rfl rfl rfl h3 rfl rfl (by decide) (ef_callc rfl rfl (by decide) rfl (w_DOne (by omega) (by omega)) ⟨ke rfl, ke rfl, trivial⟩) (TO.opG rfl rfl rfl h3 rfl (by decide) (ok_not rfl (vl rfl)) ?_))
 refine ao ?_
 refine wk5 0 4 6 7 52 rfl ?_
 refine Tr.cn rfl ?_ ?_ <;> intro h4 q4
 have hv9 := s.adv.adv.adv.adv.val_in (n := e.suites.length) (by omega)
 obtain ⟨su, hsu⟩ := at_ (l := e.suites) (k := (s.adv.adv.adv.adv.val e.suites.length).toNat) (by omega)
 refine Tr.rx ?_
 refine ay ?_
 refine Cx.ef 2 rfl rfl (by decide) (ef_callc rfl rfl (by decide) rfl (w_DNext (by omega) (by omega)) ⟨ke rfl, ke rfl, trivial⟩) (xo rfl (fun _ => ok_indexAddr rfl underlying22 sz3 (vl rfl) (vl rfl) (by omega) (row_atI (f := fun n : Int => [int n]) hsu)) ?_)
 refine ay ?_
 refine Cx.nil ⟨by kernel_rfl, ?_⟩
 refine FinX.done al4 ?_
 refine ac ?_
 refine wk2 4 7 rfl ?_
 refine ao ?_
 refine TO.store_all 1 rfl rfl rfl (vl rfl) (Va rfl) rfl sz29 rfl rfl ?_
 refine ao ?_
 refine Tr.drop 0 (Tr.ret (Fin.closeD 1 _ rfl rfl (Fin.retY1 [_] rfl (RVal.cell 0 rfl rfl agg29 sz29 rfl (Lr)) ?_ (fun _ _ _ _ => rfl))))
 · (refine ex_in ⟨_, _, _, _, zeroId⟩ (fact_in ?_ (agg_le ⟨Lr, Lr, Lr, Lr, Lr, Lr, Lr, nil_slice 15, trivial⟩)); exact ⟨hv.1, hv.2, ⟨by show 1 ≤ 1 + _; omega, by show 1 + _ ≤ 12; omega⟩, id0_fits, id0_small⟩)
 refine ac ?_
 refine ao ?_
 refine TO.store_all 1 rfl rfl rfl (vl rfl) (Va rfl) rfl sz29 rfl rfl ?_
 refine ao ?_
 refine Tr.drop 0 (Tr.ret (Fin.closeD 1 _ rfl rfl (Fin.retY1 [_] rfl (RVal.cell 0 rfl rfl agg29 sz29 rfl (Lr)) ?_ (fun _ _ _ _ => rfl))))
 · (refine ex_in ⟨_, _, _, _, zeroId⟩ (fact_in ?_ (agg_le ⟨Lr, Lr, Lr, Lr, Lr, Lr, Lr, nil_slice 15, trivial⟩)); exact ⟨hv.1, hv.2, ⟨by show 1 ≤ 1 + _; omega, by show 1 + _ ≤ 12; omega⟩, id0_fits, id0_small⟩)
 have q3 := Nrm.nrm h3
 refine TO.noG rfl rfl rfl (ne_true h3) rfl (by decide) (TO.noG rfl rfl rfl (ne_true h3) rfl (by decide) (TO.noG rfl rfl rfl (ne_true h3) rfl (by decide) ?_))
 refine ao ?_
 refine wk5 0 4 6 7 52 rfl ?_
 refine ac ?_
 refine ao ?_
 refine TO.store_all 1 rfl rfl rfl (vl rfl) (Va rfl) rfl sz29 rfl rfl ?_
 refine ao ?_
 refine Tr.drop 0 (Tr.ret (Fin.closeD 1 _ rfl rfl (Fin.retY1 [_] rfl (RVal.cell 0 rfl rfl agg29 sz29 rfl (Lr)) ?_ (fun _ _ _ _ => rfl))))
 · (refine ex_in ⟨_, _, _, _, zeroId⟩ (fact_in ?_ (agg_le ⟨Lr, Lr, Lr, Lr, Lr, Lr, Lr, nil_slice 15, trivial⟩)); exact ⟨hv.1, hv.2, ⟨by show 1 ≤ 1 + _; omega, by show 1 + _ ≤ 12; omega⟩, id0_fits, id0_small⟩)
 refine an ?_ ?_ <;> intro h5 q5
 refine ac ?_
 refine Tr.cond rfl (fun _ => ?_) (fun h => nomatch h5.symm.trans h)
 refine ao ?_
 refine TO.efc 2 rfl rfl (by decide) (ef_callc rfl rfl (by decide) rfl (w_DNext (by omega) (by omega)) ⟨ke rfl, ke rfl, trivial⟩) ?_
 refine ao ?_
 refine TO.ef0 0 rfl rfl (ef_store rfl rfl (vl rfl) (Vo rfl) sz3 rfl (by exact Nb rfl) rfl) ?_
 refine ao ?_
 refine wk2 4 7 rfl ?_
 refine ao ?_
 refine TO.store_all 1 rfl rfl rfl (vl rfl) (Va rfl) rfl sz29 rfl rfl ?_
 refine ao ?_
 refine Tr.drop 0 (Tr.ret (Fin.closeD 1 _ rfl rfl (Fin.retY1 [_] rfl (RVal.cell 0 rfl rfl agg29 sz29 rfl (Lr)) ?_ (fun _ _ _ _ => rfl))))
 · (refine ex_in ⟨_, _, _, _, zeroId⟩ (fact_in ?_ (agg_le ⟨Lr, Lr, Lr, Lr, Lr, Lr, Lr, nil_slice 15, trivial⟩)); exact ⟨hv.1, hv.2, ⟨by show 1 ≤ 1 + _; omega, by show 1 + _ ≤ 12; omega⟩, id0_fits, id0_small⟩)
 refine an ?_ ?_ <;> intro h6 q6
 refine ao ?_
 refine TO.efc 2 rfl rfl (by decide) (ef_callc rfl rfl (by decide) rfl (w_DNext (by omega) (by omega)) ⟨ke rfl, ke rfl, trivial⟩) ?_
 refine ao ?_
 refine TO.ef0 0 rfl rfl (ef_store rfl rfl (vl rfl) (Vo rfl) sz3 rfl (by exact Nb rfl) rfl) ?_
 refine ao ?_
 refine wk2 4 7 rfl ?_
 refine ao ?_
 refine TO.store_all 1 rfl rfl rfl (vl rfl) (Va rfl) rfl sz29 rfl rfl ?_
 refine ao ?_
 refine Tr.drop 0 (Tr.ret (Fin.closeD 1 _ rfl rfl (Fin.retY1 [_] rfl (RVal.cell 0 rfl rfl agg29 sz29 rfl (Lr)) ?_ (fun _ _ _ _ => rfl))))
 · (refine ex_in ⟨_, _, _, _, zeroId⟩ (fact_in ?_ (agg_le ⟨Lr, Lr, Lr, Lr, Lr, Lr, Lr, nil_slice 15, trivial⟩)); exact ⟨hv.1, hv.2, ⟨by show 1 ≤ 1 + _; omega, by show 1 + _ ≤ 12; omega⟩, id0_fits, id0_small⟩)
 refine ac ?_
 refine wk6 0 4 6 7 24 70 rfl ?_
 refine Tr.cn rfl ?_ ?_ <;> intro h7 q7
 refine Tr.rx ?_
 refine ay ?_
 refine Cx.ef 2 rfl rfl (by decide) (ef_callc rfl rfl (by decide) rfl (w_DNext (by omega) (by omega)) ⟨ke rfl, ke rfl, trivial⟩) ?_
 refine ay ?_
 refine xo rfl (fun _ => kc0 (w_EC) rfl) (xo rfl (fun _ => kc0 (w_RSA) rfl) (xo rfl (fun _ => ok_buildSlice (xs := [.tmp 80, .tmp 81]) (rows := [_, _]) rfl rfl underlying114 sz24 z24 rfl (by decide) ⟨⟨(by exact rfl), (Va rfl)⟩, ⟨⟨(by exact rfl), (Va rfl)⟩, trivial⟩⟩ (by decide)) ?_))
 refine xm rfl (Cx.ef 2 rfl rfl (by decide) (ef_callc rfl rfl (by decide) rfl (w_DNext (by omega) (by omega)) ⟨ke rfl, ke rfl, trivial⟩) (xo rfl (fun _ => ok_indexAddr rfl underlying114 sz24 (Kf rfl) (vl rfl) (by omega) (abrow hv6)) ?_))
 refine ay ?_
 refine Cx.ef 2 rfl rfl (by decide) (ef_callc rfl rfl (by decide) rfl (w_DNext (by omega) (by omega)) ⟨ke rfl, ke rfl, trivial⟩) ?_
 refine ay ?_
 refine Cx.ef 2 rfl rfl (by decide) (ef_callc rfl rfl (by decide) rfl (w_DNext (by omega) (by omega)) ⟨ke rfl, ke rfl, trivial⟩) ?_
 refine xo rfl (fun _ => ok_add rfl (vl rfl) (vl rfl) ?hin) ?_; case hin => unfold InI; omega
 refine xo rfl (fun _ => kc5 (w_Leaf (name := e.name) (a := if s.adv.adv.adv.val 2 = 0 then 7 else 5) (b := if s.adv.adv.adv.val 2 = 0 then 256 else 2048) (id := 200 + s.adv.adv.adv.adv.val 3) (to := 901) (key := 1 + s.adv.adv.adv.adv.adv.val 2) (leafV hnm (abok _) (by omega) (by omega) (by omega)) (leafT (abok _) (by omega)) (by omega)) rfl rfl rfl rfl rfl rfl) ?_
 refine ay ?_
 refine Cx.ef0 0 rfl rfl (ef_store rfl rfl (vl rfl) (VL.le (vl rfl) (leaf_cells)) sz27 rfl (by exact Nb rfl) rfl) ?_
 refine Cx.nil ⟨by kernel_rfl, ?_⟩
 refine FinX.done al4 ?_
 refine ac ?_
 refine wk2 4 7 rfl ?_
 refine ao ?_
 refine TO.store_all 1 rfl rfl rfl (vl rfl) (Va rfl) rfl sz29 rfl rfl ?_
 refine ao ?_
 refine Tr.drop 0 (Tr.ret (Fin.closeD 1 _ rfl rfl (Fin.retY1 [_] rfl (RVal.cell 0 rfl rfl agg29 sz29 rfl (Lr)) ?_ (fun _ _ _ _ => rfl))))
 · exact any_leaf (fun s_ => ⟨hv.1, hv.2, ⟨by show 1 ≤ 1 + _; omega, by show 1 + _ ≤ 12; omega⟩, (leafF hnm).1, (leafF hnm).2⟩)
 refine an ?_ ?_ <;> intro h8 q8
 refine ao ?_
 refine TO.efc 2 rfl rfl (by decide) (ef_callc rfl rfl (by decide) rfl (w_DNext (by omega) (by omega)) ⟨ke rfl, ke rfl, trivial⟩) ?_
 refine ao ?_
 refine TO.ef0 0 rfl rfl (ef_store rfl rfl (vl rfl) (Vo rfl) sz3 rfl (by exact Nb rfl) rfl) ?_
 refine ao ?_
 refine ao ?_
 refine TO.cases 106 rfl (fun h9 => ?_) (fun h9 => ?_)
 have q9 := Nrm.nrm h9
 refine TO.opG rfl rfl rfl h9 rfl (by decide) (ok_move rfl (vl rfl)) (TO.efcG 2 rfl rfl rfl h9 rfl rfl (by decide) (ef_callc rfl rfl (by decide) rfl (w_DOne (by omega) (by omega)) ⟨ke rfl, ke rfl, trivial⟩) (TO.opG rfl rfl rfl h9 rfl (by decide) (ok_not rfl (vl rfl)) ?_))
 refine ao ?_
 refine wk5 0 4 6 7 110 rfl ?_
 refine Tr.cn rfl ?_ ?_ <;> intro h10 q10
 have hv9 := s.adv.adv.adv.adv.val_in (n := e.ids.length) (by omega)
 obtain ⟨iy, hiy⟩ := at_ (l := e.ids) (k := (s.adv.adv.adv.adv.val e.ids.length).toNat) (by omega)
 refine Tr.rx ?_
 refine ay ?_
 refine Cx.ef 2 rfl rfl (by decide) (ef_callc rfl rfl (by decide) rfl (w_DNext (by omega) (by omega)) ⟨ke rfl, ke rfl, trivial⟩) (xo rfl (fun _ => ok_indexAddr rfl underlying30 sz27 (vl rfl) (vl rfl) (by omega) (row_atI hiy)) ?_)
 refine ay ?_
 refine Cx.nil ⟨by kernel_rfl, ?_⟩
 refine FinX.done al4 ?_
 refine ac ?_
 refine wk2 4 7 rfl ?_
 refine ao ?_
 refine TO.store_all 1 rfl rfl rfl (vl rfl) (Va rfl) rfl sz29 rfl rfl ?_
 refine ao ?_
 refine Tr.drop 0 (Tr.ret (Fin.closeD 1 _ rfl rfl (Fin.retY1 [_] rfl (RVal.cell 0 rfl rfl agg29 sz29 rfl (Lr)) ?_ (fun _ _ _ _ => rfl))))
 · (refine ex_in ⟨_, _, _, _, zeroId⟩ (fact_in ?_ (agg_le ⟨Lr, Lr, Lr, Lr, Lr, Lr, Lr, nil_slice 15, trivial⟩)); exact ⟨hv.1, hv.2, ⟨by show 1 ≤ 1 + _; omega, by show 1 + _ ≤ 12; omega⟩, id0_fits, id0_small⟩)
 refine ac ?_
 refine ao ?_
 refine TO.store_all 1 rfl rfl rfl (vl rfl) (Va rfl) rfl sz29 rfl rfl ?_
 refine ao ?_
 refine Tr.drop 0 (Tr.ret (Fin.closeD 1 _ rfl rfl (Fin.retY1 [_] rfl (RVal.cell 0 rfl rfl agg29 sz29 rfl (Lr)) ?_ (fun _ _ _ _ => rfl))))
 · (refine ex_in ⟨_, _, _, _, zeroId⟩ (fact_in ?_ (agg_le ⟨Lr, Lr, Lr, Lr, Lr, Lr, Lr, nil_slice 15, trivial⟩)); exact ⟨hv.1, hv.2, ⟨by show 1 ≤ 1 + _; omega, by show 1 + _ ≤ 12; omega⟩, id0_fits, id0_small⟩)
 have q9 := Nrm.nrm h9
 refine TO.noG rfl rfl rfl (ne_true h9) rfl (by decide) (TO.noG rfl rfl rfl (ne_true h9) rfl (by decide) (TO.noG rfl rfl rfl (ne_true h9) rfl (by decide) ?_))
 refine ao ?_
 refine wk5 0 4 6 7 110 rfl ?_
 refine ac ?_
 refine ao ?_
 refine TO.store_all 1 rfl rfl rfl (vl rfl) (Va rfl) rfl sz29 rfl rfl ?_
 refine ao ?_
 refine Tr.drop 0 (Tr.ret (Fin.closeD 1 _ rfl rfl (Fin.retY1 [_] rfl (RVal.cell 0 rfl rfl agg29 sz29 rfl (Lr)) ?_ (fun _ _ _ _ => rfl))))
 · (refine ex_in ⟨_, _, _, _, zeroId⟩ (fact_in ?_ (agg_le ⟨Lr, Lr, Lr, Lr, Lr, Lr, Lr, nil_slice 15, trivial⟩)); exact ⟨hv.1, hv.2, ⟨by show 1 ≤ 1 + _; omega, by show 1 + _ ≤ 12; omega⟩, id0_fits, id0_small⟩)
 refine an ?_ ?_ <;> intro h11 q11
 refine ac ?_
 refine Tr.cond rfl (fun _ => ?_) (fun h => nomatch h11.symm.trans h)
 refine ao ?_
 refine TO.efc 2 rfl rfl (by decide) (ef_callc rfl rfl (by decide) rfl (w_DNext (by omega) (by omega)) ⟨ke rfl, ke rfl, trivial⟩) ?_
 refine ao ?_
 refine TO.ef0 0 rfl rfl (ef_store rfl rfl (vl rfl) (Vo rfl) sz3 rfl (by exact Nb rfl) rfl) ?_
 refine ao ?_
 refine wk2 4 7 rfl ?_
 refine ao ?_
 refine TO.store_all 1 rfl rfl rfl (vl rfl) (Va rfl) rfl sz29 rfl rfl ?_
 refine ao ?_
 refine Tr.drop 0 (Tr.ret (Fin.closeD 1 _ rfl rfl (Fin.retY1 [_] rfl (RVal.cell 0 rfl rfl agg29 sz29 rfl (Lr)) ?_ (fun _ _ _ _ => rfl))))
 · (refine ex_in ⟨_, _, _, _, zeroId⟩ (fact_in ?_ (agg_le ⟨Lr, Lr, Lr, Lr, Lr, Lr, Lr, nil_slice 15, trivial⟩)); exact ⟨hv.1, hv.2, ⟨by show 1 ≤ 1 + _; omega, by show 1 + _ ≤ 12; omega⟩, id0_fits, id0_small⟩)
 refine an ?_ ?_ <;> intro h12 q12
 refine ao ?_
 refine TO.efc 2 rfl rfl (by decide) (ef_callc rfl rfl (by decide) rfl (w_DNext (by omega) (by omega)) ⟨ke rfl, ke rfl, trivial⟩) ?_
 refine ao ?_
 refine TO.ef0 0 rfl rfl (ef_store rfl rfl (vl rfl) (Vo rfl) sz3 rfl (by exact Nb rfl) rfl) ?_
 refine ao ?_
 refine wk2 4 7 rfl ?_
 refine ao ?_
 refine TO.store_all 1 rfl rfl rfl (vl rfl) (Va rfl) rfl sz29 rfl rfl ?_
 refine ao ?_
 refine Tr.drop 0 (Tr.ret (Fin.closeD 1 _ rfl rfl (Fin.retY1 [_] rfl (RVal.cell 0 rfl rfl agg29 sz29 rfl (Lr)) ?_ (fun _ _ _ _ => rfl))))
 · (refine ex_in ⟨_, _, _, _, zeroId⟩ (fact_in ?_ (agg_le ⟨Lr, Lr, Lr, Lr, Lr, Lr, Lr, nil_slice 15, trivial⟩)); exact ⟨hv.1, hv.2, ⟨by show 1 ≤ 1 + _; omega, by show 1 + _ ≤ 12; omega⟩, id0_fits, id0_small⟩)
 refine ac ?_
 refine wk5 0 4 7 24 129 rfl ?_
 refine Tr.cn rfl ?_ ?_ <;> intro h13 q13
 refine ac ?_
 refine Tr.cond rfl (fun _ => ?_) (fun h => nomatch h13.symm.trans h)
 refine ao ?_
 refine TO.efc 2 rfl rfl (by decide) (ef_callc rfl rfl (by decide) rfl (w_DNext (by omega) (by omega)) ⟨ke rfl, ke rfl, trivial⟩) ?_
 refine ao ?_
 refine TO.ef0 0 rfl rfl (ef_store rfl rfl (vl rfl) (Vo rfl) sz3 rfl (by exact Nb rfl) rfl) ?_
 refine ao ?_
 refine ao ?_
 refine TO.store_all 1 rfl rfl rfl (vl rfl) (Va rfl) rfl sz29 rfl rfl ?_
 refine ao ?_
 refine Tr.drop 0 (Tr.ret (Fin.closeD 1 _ rfl rfl (Fin.retY1 [_] rfl (RVal.cell 0 rfl rfl agg29 sz29 rfl (Lr)) ?_ (fun _ _ _ _ => rfl))))
 · (refine ex_in ⟨_, _, _, _, zeroId⟩ (fact_in ?_ (agg_le ⟨Lr, Lr, Lr, Lr, Lr, Lr, Lr, nil_slice 15, trivial⟩)); exact ⟨hv.1, hv.2, ⟨by show 1 ≤ 1 + _; omega, by show 1 + _ ≤ 12; omega⟩, id0_fits, id0_small⟩)
 refine an ?_ ?_ <;> intro h14 q14
 refine ao ?_
 refine TO.efc 2 rfl rfl (by decide) (ef_callc rfl rfl (by decide) rfl (w_DNext (by omega) (by omega)) ⟨ke rfl, ke rfl, trivial⟩) ?_
 refine ao ?_
 refine TO.ef0 0 rfl rfl (ef_store rfl rfl (vl rfl) (Vo rfl) sz3 rfl (by exact Nb rfl) rfl) ?_
 refine ao ?_
 refine ao ?_
 refine TO.store_all 1 rfl rfl rfl (vl rfl) (Va rfl) rfl sz29 rfl rfl ?_
 refine ao ?_
 refine Tr.drop 0 (Tr.ret (Fin.closeD 1 _ rfl rfl (Fin.retY1 [_] rfl (RVal.cell 0 rfl rfl agg29 sz29 rfl (Lr)) ?_ (fun _ _ _ _ => rfl))))
 · (refine ex_in ⟨_, _, _, _, zeroId⟩ (fact_in ?_ (agg_le ⟨Lr, Lr, Lr, Lr, Lr, Lr, Lr, nil_slice 15, trivial⟩)); exact ⟨hv.1, hv.2, ⟨by show 1 ≤ 1 + _; omega, by show 1 + _ ≤ 12; omega⟩, id0_fits, id0_small⟩)
 refine an ?_ ?_ <;> intro h15 q15
 refine ac ?_
 refine Tr.cond rfl (fun _ => ?_) (fun h => nomatch h15.symm.trans h)
 refine ao ?_
 refine TO.efc 2 rfl rfl (by decide) (ef_callc rfl rfl (by decide) rfl (w_DNext (by omega) (by omega)) ⟨ke rfl, ke rfl, trivial⟩) (tp rfl (okp_fieldAddr rfl fo29_2 (vl rfl)) (TO.ef0 0 rfl rfl (ef_store rfl rfl (vl rfl) (Vo rfl) sz3 rfl (by exact Nb rfl) rfl) ?_))
 refine ao ?_
 refine ao ?_
 refine TO.store_all 1 rfl rfl rfl (vl rfl) (Va rfl) rfl sz29 rfl rfl ?_
 refine ao ?_
 refine Tr.drop 0 (Tr.ret (Fin.closeD 1 _ rfl rfl (Fin.retY1 [_] rfl (RVal.cell 0 rfl rfl agg29 sz29 rfl (Lr)) ?_ (fun _ _ _ _ => rfl))))
 · (refine ex_in ⟨_, _, _, _, zeroId⟩ (fact_in ?_ (agg_le ⟨Lr, Lr, Lr, Lr, Lr, Lr, Lr, nil_slice 15, trivial⟩)); exact ⟨hv.1, hv.2, ⟨by show 1 ≤ 1 + _; omega, by show 1 + _ ≤ 12; omega⟩, id0_fits, id0_small⟩)
 refine an ?_ ?_ <;> intro h16 q16
 refine ao ?_
 refine TO.efc 2 rfl rfl (by decide) (ef_callc rfl rfl (by decide) rfl (w_DNext (by omega) (by omega)) ⟨ke rfl, ke rfl, trivial⟩) (tp rfl (okp_fieldAddr rfl fo29_2 (vl rfl)) (TO.ef0 0 rfl rfl (ef_store rfl rfl (vl rfl) (Vo rfl) sz3 rfl (by exact Nb rfl) rfl) ?_))
 refine ao ?_
 refine wk2 4 7 rfl ?_
 refine ao ?_
 refine TO.store_all 1 rfl rfl rfl (vl rfl) (Va rfl) rfl sz29 rfl rfl ?_
 refine ao ?_
 refine Tr.drop 0 (Tr.ret (Fin.closeD 1 _ rfl rfl (Fin.retY1 [_] rfl (RVal.cell 0 rfl rfl agg29 sz29 rfl (Lr)) ?_ (fun _ _ _ _ => rfl))))
 · (refine ex_in ⟨_, _, _, _, zeroId⟩ (fact_in ?_ (agg_le ⟨Lr, Lr, Lr, Lr, Lr, Lr, Lr, nil_slice 15, trivial⟩)); exact ⟨hv.1, hv.2, ⟨by show 1 ≤ 1 + _; omega, by show 1 + _ ≤ 12; omega⟩, id0_fits, id0_small⟩)
 refine ac ?_
 refine ao ?_
 refine TO.store_all 1 rfl rfl rfl (vl rfl) (Va rfl) rfl sz29 rfl rfl ?_
 refine ao ?_
 refine Tr.drop 0 (Tr.ret (Fin.closeD 1 _ rfl rfl (Fin.retY1 [_] rfl (RVal.cell 0 rfl rfl agg29 sz29 rfl (Lr)) ?_ (fun _ _ _ _ => rfl))))
 · (refine ex_in ⟨_, _, _, _, zeroId⟩ (fact_in ?_ (agg_le ⟨Lr, Lr, Lr, Lr, Lr, Lr, Lr, nil_slice 15, trivial⟩)); exact ⟨hv.1, hv.2, ⟨by show 1 ≤ 1 + _; omega, by show 1 + _ ≤ 12; omega⟩, id0_fits, id0_small⟩)
/-- Of some size. -/
structure Ept.sz (e : Ept) (n : Nat) : Prop where
 name : e.name.length ≤ maxLen
 suites : e.suites.length ≤ n
 anchors : e.anchors.length ≤ n
 hashes : e.hashes.length ≤ n
 idl : e.ids.length ≤ n
 ids : ∀ x ∈ e.ids, x.fits ∧ x.small
theorem Ept.sz.fits {e : Ept} {n : Nat} (h : e.sz n) : e.fits := ⟨h.name, fun x hx => (h.ids x hx).1⟩
theorem Ept.sz.small {e : Ept} {n : Nat} (h : e.sz n) (hn : n ≤ 1000000) : e.small := ⟨by have := h.suites; omega, by have := h.anchors; omega, by have := h.hashes; omega, by have := h.idl; omega, fun x hx => (h.ids x hx).2⟩
theorem Ept.sz.le {e : Ept} {n m : Nat} (h : e.sz n) (hn : n ≤ m) : e.sz m := ⟨h.name, Nat.le_trans h.suites hn, Nat.le_trans h.anchors hn, Nat.le_trans h.hashes hn, Nat.le_trans h.idl hn, h.ids⟩
theorem sndE_sz {i : Nat} {e : Ept} (h : SndE i e) : e.sz 5 := by
 have hs := sndS_ok _ (sndE_suites h)
 have h1 := sndE_fits h; have h2 := sndE_small h
 obtain ⟨s, hs1, hs2⟩ := h.ids
 exact ⟨h1.name, hs.2, by rw [h.anchors]; simp, by rw [h.hashes]; simp, by rw [hs2]; simp, fun x hx => ⟨h1.ids x hx, h2.ids x hx⟩⟩
theorem len_ins {α : Type} {l : List α} {a : α} {i : Nat} : (l.take i ++ [a] ++ l.drop i).length ≤ l.length + 1 := by simp [List.length_take, List.length_drop]; omega
theorem len_del {α : Type} {l : List α} {i : Nat} : (l.eraseIdx i).length ≤ l.length := by rw [List.length_eraseIdx]; split <;> omega
theorem id0_fs : zeroId.fits ∧ zeroId.small := ⟨id0_fits, id0_small⟩
theorem mem_ins {P : Idn → Prop} {l : List Idn} {x : Idn} {i : Nat} (h : ∀ y ∈ l, P y) (hx : P x) : ∀ y ∈ l.take i ++ [x] ++ l.drop i, P y := by
 intro y hy
 simp only [List.mem_append, List.mem_cons, List.not_mem_nil, or_false] at hy
 rcases hy with (hy | rfl) | hy
 · exact h y (List.mem_of_mem_take hy)
 · exact hx
 · exact h y (List.mem_of_mem_drop hy)
theorem sz_step {e : Ept} {c : Chg} {x : Ept} {b : Chg} {n : Nat} (hc : okCh c) (h : stepR e c = .ok (x, b)) (hs : e.sz n) (hi : c.idn.fits ∧ c.idn.small) : x.sz (n + 1) ∧ b.idn.fits ∧ b.idn.small := by
 have h1 := hs.suites; have h2 := hs.anchors; have h3 := hs.hashes; have h4 := hs.idl
 rcases kinds12 hc.1 with hk | hk | hk | hk | hk | hk | hk | hk | hk | hk | hk | hk
 · rw [stepR_1 hk] at h; (repeat' (split at h)) <;> first | (cases h; done) | (injection h with h; obtain ⟨rfl, rfl⟩ := Prod.mk.inj h; exact ⟨⟨hs.name, Nat.le_trans len_ins (by omega), Nat.le_trans h2 (by omega), Nat.le_trans h3 (by omega), Nat.le_trans h4 (by omega), hs.ids⟩, id0_fs⟩)
 · rw [stepR_2 hk] at h; (repeat' (split at h)) <;> first | (cases h; done) | (injection h with h; obtain ⟨rfl, rfl⟩ := Prod.mk.inj h; exact ⟨⟨hs.name, Nat.le_trans len_del (by omega), Nat.le_trans h2 (by omega), Nat.le_trans h3 (by omega), Nat.le_trans h4 (by omega), hs.ids⟩, id0_fs⟩)
 · rw [stepR_3 hk] at h; (repeat' (split at h)) <;> first | (cases h; done) | (injection h with h; obtain ⟨rfl, rfl⟩ := Prod.mk.inj h; exact ⟨⟨hs.name, Nat.le_trans h1 (by omega), Nat.le_trans h2 (by omega), Nat.le_trans h3 (by omega), Nat.le_trans h4 (by omega), hs.ids⟩, id0_fs⟩)
 · rw [stepR_4 hk] at h; (repeat' (split at h)) <;> first | (cases h; done) | (injection h with h; obtain ⟨rfl, rfl⟩ := Prod.mk.inj h; exact ⟨⟨hs.name, Nat.le_trans h1 (by omega), Nat.le_trans h2 (by omega), Nat.le_trans h3 (by omega), Nat.le_trans h4 (by omega), hs.ids⟩, id0_fs⟩)
 · rw [stepR_5 hk] at h; (repeat' (split at h)) <;> first | (cases h; done) | (injection h with h; obtain ⟨rfl, rfl⟩ := Prod.mk.inj h; exact ⟨⟨hs.name, Nat.le_trans h1 (by omega), Nat.le_trans h2 (by omega), Nat.le_trans h3 (by omega), Nat.le_trans len_ins (by omega), mem_ins hs.ids hi⟩, id0_fs⟩)
 · rw [stepR_6 hk] at h; (repeat' (split at h)) <;> first | (cases h; done) | (injection h with h; obtain ⟨rfl, rfl⟩ := Prod.mk.inj h; exact ⟨⟨hs.name, Nat.le_trans h1 (by omega), Nat.le_trans h2 (by omega), Nat.le_trans h3 (by omega), Nat.le_trans len_del (by omega), fun y hy => hs.ids y (List.mem_of_mem_eraseIdx hy)⟩, hs.ids _ (List.mem_of_getElem? (by assumption))⟩)
 · rw [stepR_7 hk] at h; (repeat' (split at h)) <;> first | (cases h; done) | (injection h with h; obtain ⟨rfl, rfl⟩ := Prod.mk.inj h; exact ⟨⟨hs.name, Nat.le_trans h1 (by omega), Nat.le_trans len_ins (by omega), Nat.le_trans h3 (by omega), Nat.le_trans h4 (by omega), hs.ids⟩, id0_fs⟩)
 · rw [stepR_8 hk] at h; (repeat' (split at h)) <;> first | (cases h; done) | (injection h with h; obtain ⟨rfl, rfl⟩ := Prod.mk.inj h; exact ⟨⟨hs.name, Nat.le_trans h1 (by omega), Nat.le_trans len_del (by omega), Nat.le_trans h3 (by omega), Nat.le_trans h4 (by omega), hs.ids⟩, id0_fs⟩)
 · rw [stepR_9 hk] at h; (repeat' (split at h)) <;> first | (cases h; done) | (injection h with h; obtain ⟨rfl, rfl⟩ := Prod.mk.inj h; exact ⟨⟨hs.name, Nat.le_trans h1 (by omega), Nat.le_trans h2 (by omega), Nat.le_trans len_ins (by omega), Nat.le_trans h4 (by omega), hs.ids⟩, id0_fs⟩)
 · rw [stepR_10 hk] at h; (repeat' (split at h)) <;> first | (cases h; done) | (injection h with h; obtain ⟨rfl, rfl⟩ := Prod.mk.inj h; exact ⟨⟨hs.name, Nat.le_trans h1 (by omega), Nat.le_trans h2 (by omega), Nat.le_trans len_del (by omega), Nat.le_trans h4 (by omega), hs.ids⟩, id0_fs⟩)
 · rw [stepR_11 hk] at h; (repeat' (split at h)) <;> first | (cases h; done) | (injection h with h; obtain ⟨rfl, rfl⟩ := Prod.mk.inj h; exact ⟨⟨hs.name, Nat.le_trans h1 (by omega), Nat.le_trans h2 (by omega), Nat.le_trans h3 (by omega), Nat.le_trans h4 (by omega), hs.ids⟩, id0_fs⟩)
 · rw [stepR_12 hk] at h; (repeat' (split at h)) <;> first | (cases h; done) | (injection h with h; obtain ⟨rfl, rfl⟩ := Prod.mk.inj h; exact ⟨⟨hs.name, Nat.le_trans h1 (by omega), Nat.le_trans h2 (by omega), Nat.le_trans h3 (by omega), Nat.le_trans h4 (by omega), hs.ids⟩, id0_fs⟩)

theorem sz_done {e : Ept} {c : Chg} {x : Ept} {b : Chg} {n : Nat} (h : doneR e c = (x, b, 0)) (hs : e.sz n) (hi : c.idn.fits ∧ c.idn.small) : x.sz (n + 1) ∧ b.idn.fits ∧ b.idn.small := by
 obtain ⟨_, h2, h3, _⟩ := doneR_inv h
 exact sz_step h2 h3 hs hi
def letN (n : Nat) : Bool := decide ((97 ≤ n ∧ n ≤ 122) ∨ (65 ≤ n ∧ n ≤ 90) ∨ (48 ≤ n ∧ n ≤ 57) ∨ n = 45 ∨ n = 95 ∨ n = 46)
theorem letter_all : ∀ n ∈ List.range 256, letterB [45, 95, 46] (UInt8.ofNat n) = letN n := by decide +kernel
theorem letter_eq (c : UInt8) : letterB [45, 95, 46] c = letN c.toNat := by
 have h := letter_all c.toNat (List.mem_range.2 c.toNat_lt)
 rw [UInt8.ofNat_toNat] at h; exact h

theorem w_R6Word {s : List UInt8}  : Fun prog 124 [str s] (bool (wordB s)) := by
 refine fo func124 rfl ⟨rfl, rfl⟩ fun M0 w0 => ?_
 refine ac ?_
 refine ag ?_ ?_ <;> intro h1 q1
 refine a3 ?_
 · refine bool_eq ?_; unfold wordB; rw [Bool.and_eq_false_iff.2 (.inr (by simp; omega))]
 refine an ?_ ?_ <;> intro h2 q2
 refine a2 ?_
 · refine bool_eq ?_; unfold wordB; rw [Bool.and_eq_false_iff.2 (.inr (by simp; omega))]
 refine a2 ?_
 refine Tr.block (Tr.loopw [(0, _)] ⟨ke rfl, trivial⟩ (fun k : Nat => [(3, int ((k : Nat) : Int))]) (fun k : Nat => k ≤ (s).length ∧ (∀ j y, j < k → s[j]? = some y → (!letterB [45, 95, 46] y) = false)) (fun k : Nat => (s).length - k) 0 (⟨Nat.zero_le _, fun j y hj => absurd hj (by omega)⟩) ⟨ke rfl, trivial⟩ ?_)
 rintro k ⟨hle_k, hinv_k⟩
 refine an ?_ ?_ <;> intro h3 q3
 have hk_k : k < (s).length := lt_of_dec h3
 obtain ⟨c, hx_k⟩ := at_ hk_k
 · repeat' first | (refine bool_eq ?_; unfold wordB; rw [all_hit (p := letterB [45, 95, 46]) hx_k (by rw [letter_eq]; unfold letN; simp; omega)]; rfl) | (exact Fin.fam_same (k + 1) ⟨⟨hk_k, step_no (p := fun c => !letterB [45, 95, 46] c) hx_k (by rw [letter_eq]; unfold letN; simp; omega) hinv_k⟩, by omega⟩ ⟨⟨_, rfl, int_succ k⟩, ke rfl, trivial⟩) | refine co rfl (ok_sidx rfl underlying9 (vl rfl) (vl rfl) (by omega) (sidx_at (by assumption))) ?_ | refine ac ?_ | (refine Tr.cn rfl ?_ ?_ <;> intro h q) | (refine Ch.cg rfl rfl rfl ?_ ?_ <;> intro h q)
 have he_k : k = (s).length := by have := ge_of_dec h3; omega
 subst he_k
 refine a3 ?_
 · refine bool_eq ?_; unfold wordB; rw [all_end hinv_k, Bool.true_and]; symm; rw [decide_eq_true_eq]; omega
theorem w_R2use {a b : Int}  : Fun prog 218 [int a, int b] (agg [int a, int b]) := by
 refine fo func218 rfl ⟨rfl, rfl⟩ fun M0 w0 => (Tr.seq (Tr.regT ?_))
 refine Tl rfl rfl rfl rfl z24 zo24 (fun b1 => ?_)
 refine ap ?_
 refine ap ?_
 refine Tr.ret (Fin.retX1 rfl (RVal.cell 0 rfl rfl agg24 sz24 rfl (Lr)) ?_)
 · exact Lr
theorem w_R2suite {a l m x1 y1 x2 y2 x3 y3 x4 y4 : Int} {s : List UInt8}  : Fun prog 219 [int a, str s, agg [int x1, int y1], agg [int x2, int y2], agg [int x3, int y3], agg [int x4, int y4], int l, int m] (agg anyRow) := by
 refine Fun.of func219 rfl rfl (by exact Nb rfl) fun M0 w0 => ?_
 refine Tr.seq (Tr.regT ?_)
 iterate 4 refine tp rfl (ok_box rfl (Va rfl)) ?_
 refine Tl rfl rfl rfl rfl z170 zo170 (fun b1 => ?_)
 refine TO.nil (Fin.go (Tr.seq (Tr.regT (tm rfl (tm rfl ?_)))))
 iterate 4 refine tp rfl (ok_loadA rfl agg24 sz24 (vl rfl) rfl rfl) ?_
 refine tm rfl (tm rfl (tp rfl (ok_build (rows := [(0, [_]), (1, [_]), (2, _), (3, _), (4, _), (5, _), (6, [_]), (7, [_])]) rfl bl170 zo170 ⟨⟨rfl, (Vo rfl)⟩, ⟨⟨rfl, (Vo rfl)⟩, ⟨⟨rfl, (Va rfl)⟩, ⟨⟨rfl, (Va rfl)⟩, ⟨⟨rfl, (Va rfl)⟩, ⟨⟨rfl, (Va rfl)⟩, ⟨⟨rfl, (Vo rfl)⟩, ⟨⟨rfl, (Vo rfl)⟩, trivial⟩⟩⟩⟩⟩⟩⟩⟩ rfl) (TO.re 25 (agg anyRow) rfl (agg_any rfl) (TO.store_all 0 rfl rfl rfl (vl rfl) (Va rfl) rfl sz170 rfl rfl (TO.nil (Fin.go (wk1 16 rfl (Tr.ret (Fin.retX1 rfl (RVal.cell 0 rfl rfl agg170 sz170 rfl (Lr)) ?_)))))))))
 · exact Lr
theorem w_R2Suites   : Fun prog 179 [] (slice 12 anyRows) := by
 refine fo func179 rfl ⟨rfl, rfl⟩ fun M0 w0 => ?_
 refine ac ?_
 refine Tr.seq (Tr.regT (tp rfl (kc2 (w_R2use) rfl rfl rfl) (tp rfl (kc2 (w_R2use) rfl rfl rfl) (tp rfl (ok_build (rows := []) rfl bl24 zo24 trivial rfl) ?_))))
 refine Tl rfl rfl rfl rfl z24 zo24 (fun b1 => ?_)
 refine Tl rfl rfl rfl rfl z24 zo24 (fun b2 => ?_)
 refine Tl rfl rfl rfl rfl z24 zo24 (fun b3 => ?_)
 refine sf 2 1 ⟨rfl, rfl, rfl⟩ rfl rfl rfl rfl ?_
 refine sf 1 2 ⟨rfl, rfl, rfl⟩ rfl rfl rfl rfl ?_
 refine sf 0 3 ⟨rfl, rfl, rfl⟩ rfl rfl rfl rfl ?_
 refine ao ?_
 refine Tr.seq (Tr.regT (tp rfl (kc2 (w_R2use) rfl rfl rfl) (tp rfl (kc2 (w_R2use) rfl rfl rfl) ?_)))
 refine Tl rfl rfl rfl rfl z24 zo24 (fun b4 => ?_)
 refine Tl rfl rfl rfl rfl z24 zo24 (fun b5 => ?_)
 refine sf 1 4 ⟨rfl, rfl, rfl⟩ rfl rfl rfl rfl ?_
 refine sf 0 5 ⟨rfl, rfl, rfl⟩ rfl rfl rfl rfl ?_
 refine ao ?_
 refine wk5 1 2 3 4 5 rfl (Tr.seq (Tr.regT (tp rfl (kc2 (w_R2use) rfl rfl rfl) (tp rfl (kc2 (w_R2use) rfl rfl rfl) (tp rfl (kc2 (w_R2use) rfl rfl rfl) ?_)))))
 refine Tl rfl rfl rfl rfl z24 zo24 (fun b6 => ?_)
 refine Tl rfl rfl rfl rfl z24 zo24 (fun b7 => ?_)
 refine Tl rfl rfl rfl rfl z24 zo24 (fun b8 => ?_)
 refine sf 2 6 ⟨rfl, rfl, rfl⟩ rfl rfl rfl rfl ?_
 refine sf 1 7 ⟨rfl, rfl, rfl⟩ rfl rfl rfl rfl ?_
 refine sf 0 8 ⟨rfl, rfl, rfl⟩ rfl rfl rfl rfl ?_
 refine ao ?_
 refine wk8 1 2 3 4 5 6 7 8 rfl (Tr.seq (Tr.regT ?_))
 iterate 4 refine tp rfl (kc2 (w_R2use) rfl rfl rfl) ?_
 refine Tl rfl rfl rfl rfl z24 zo24 (fun b9 => ?_)
 refine Tl rfl rfl rfl rfl z24 zo24 (fun b10 => ?_)
 refine Tl rfl rfl rfl rfl z24 zo24 (fun b11 => ?_)
 refine Tl rfl rfl rfl rfl z24 zo24 (fun b12 => ?_)
 refine sf 3 9 ⟨rfl, rfl, rfl⟩ rfl rfl rfl rfl ?_
 refine sf 2 10 ⟨rfl, rfl, rfl⟩ rfl rfl rfl rfl ?_
 refine sf 1 11 ⟨rfl, rfl, rfl⟩ rfl rfl rfl rfl ?_
 refine sf 0 12 ⟨rfl, rfl, rfl⟩ rfl rfl rfl rfl ?_
 refine ao ?_
 refine wk12 1 2 3 4 5 6 7 8 9 10 11 12 rfl (Tr.seq (Tr.regT (tp rfl (kc2 (w_R2use) rfl rfl rfl) (tp rfl (kc2 (w_R2use) rfl rfl rfl) ?_))))
 refine Tl rfl rfl rfl rfl z24 zo24 (fun b13 => ?_)
 refine Tl rfl rfl rfl rfl z24 zo24 (fun b14 => ?_)
 refine sf 1 13 ⟨rfl, rfl, rfl⟩ rfl rfl rfl rfl ?_
 refine sf 0 14 ⟨rfl, rfl, rfl⟩ rfl rfl rfl rfl ?_
 refine ao ?_
 refine wk14 1 2 3 4 5 6 7 8 9 10 11 12 13 14 rfl ?_
 refine ac ?_
 refine co rfl (ok_call rfl (w_R2suite) ⟨ke rfl, ke rfl, ke rfl, ke rfl, ke rfl, ke rfl, ke rfl, ke rfl, trivial⟩) ?_
 refine ac ?_
 refine co rfl (ok_call rfl (w_R2suite) ⟨ke rfl, ke rfl, ke rfl, ke rfl, ke rfl, ke rfl, ke rfl, ke rfl, trivial⟩) ?_
 refine ac ?_
 refine co rfl (ok_call rfl (w_R2suite) ⟨ke rfl, ke rfl, ke rfl, ke rfl, ke rfl, ke rfl, ke rfl, ke rfl, trivial⟩) (co rfl (kc2 (w_R2use) rfl rfl rfl) (co rfl (kc2 (w_R2use) rfl rfl rfl) ?_))
 refine ac ?_
 refine co rfl (ok_call rfl (w_R2suite) ⟨ke rfl, ke rfl, ke rfl, ke rfl, ke rfl, ke rfl, ke rfl, ke rfl, trivial⟩) (co rfl (kc2 (w_R2use) rfl rfl rfl) ?_)
 refine ac ?_
 refine co rfl (ok_call rfl (w_R2suite) ⟨ke rfl, ke rfl, ke rfl, ke rfl, ke rfl, ke rfl, ke rfl, ke rfl, trivial⟩) ?_
 refine ac ?_
 refine co rfl (ok_call rfl (w_R2suite) ⟨ke rfl, ke rfl, ke rfl, ke rfl, ke rfl, ke rfl, ke rfl, ke rfl, trivial⟩) (co rfl (kc2 (w_R2use) rfl rfl rfl) ?_)
 refine ac ?_
 refine co rfl (ok_call rfl (w_R2suite) ⟨ke rfl, ke rfl, ke rfl, ke rfl, ke rfl, ke rfl, ke rfl, ke rfl, trivial⟩) ?_
 refine ac ?_
 refine co rfl (ok_call rfl (w_R2suite) ⟨ke rfl, ke rfl, ke rfl, ke rfl, ke rfl, ke rfl, ke rfl, ke rfl, trivial⟩) (co rfl (ok_loadA rfl agg24 sz24 (vl rfl) rfl rfl) (co rfl (kc2 (w_R2use) rfl rfl rfl) (co rfl (kc2 (w_R2use) rfl rfl rfl) (co rfl (ok_loadA rfl agg24 sz24 (vl rfl) rfl rfl) (co rfl (ok_call rfl (w_R2suite) ⟨ke rfl, ke rfl, ke rfl, ke rfl, ke rfl, ke rfl, ke rfl, ke rfl, trivial⟩) ?_)))))
 refine ac ?_
 refine co rfl (ok_call rfl (w_R2suite) ⟨ke rfl, ke rfl, ke rfl, ke rfl, ke rfl, ke rfl, ke rfl, ke rfl, trivial⟩) (co rfl (kc2 (w_R2use) rfl rfl rfl) (co rfl (kc2 (w_R2use) rfl rfl rfl) ?_))
 refine ac ?_
 refine co rfl (ok_call rfl (w_R2suite) ⟨ke rfl, ke rfl, ke rfl, ke rfl, ke rfl, ke rfl, ke rfl, ke rfl, trivial⟩) ?_
 refine ac ?_
 refine co rfl (ok_call rfl (w_R2suite) ⟨ke rfl, ke rfl, ke rfl, ke rfl, ke rfl, ke rfl, ke rfl, ke rfl, trivial⟩) ?_
 refine ac ?_
 refine co rfl (ok_call rfl (w_R2suite) ⟨ke rfl, ke rfl, ke rfl, ke rfl, ke rfl, ke rfl, ke rfl, ke rfl, trivial⟩) ?_
 refine ac ?_
 refine co rfl (ok_call rfl (w_R2suite) ⟨ke rfl, ke rfl, ke rfl, ke rfl, ke rfl, ke rfl, ke rfl, ke rfl, trivial⟩) ?_
 refine ac ?_
 refine co rfl (ok_call rfl (w_R2suite) ⟨ke rfl, ke rfl, ke rfl, ke rfl, ke rfl, ke rfl, ke rfl, ke rfl, trivial⟩) (co rfl (kc2 (w_R2use) rfl rfl rfl) ?_)
 refine ac ?_
 refine co rfl (ok_call rfl (w_R2suite) ⟨ke rfl, ke rfl, ke rfl, ke rfl, ke rfl, ke rfl, ke rfl, ke rfl, trivial⟩) (co rfl (ok_buildSlice (xs := [.tmp 33, .tmp 38, .tmp 43, .tmp 48, .tmp 53, .tmp 58, .tmp 63, .tmp 68, .tmp 73, .tmp 78, .tmp 83, .tmp 88, .tmp 93, .tmp 98, .tmp 103, .tmp 108]) (rows := anyRows) rfl rfl underlying205 sz170 z170 rfl (by decide) ⟨⟨(by exact rfl), VL.le (vl rfl) (agg_cellsP _)⟩, ⟨⟨(by exact rfl), VL.le (vl rfl) (agg_cellsP _)⟩, ⟨⟨(by exact rfl), VL.le (vl rfl) (agg_cellsP _)⟩, ⟨⟨(by exact rfl), VL.le (vl rfl) (agg_cellsP _)⟩, ⟨⟨(by exact rfl), VL.le (vl rfl) (agg_cellsP _)⟩, ⟨⟨(by exact rfl), VL.le (vl rfl) (agg_cellsP _)⟩, ⟨⟨(by exact rfl), VL.le (vl rfl) (agg_cellsP _)⟩, ⟨⟨(by exact rfl), VL.le (vl rfl) (agg_cellsP _)⟩, ⟨⟨(by exact rfl), VL.le (vl rfl) (agg_cellsP _)⟩, ⟨⟨(by exact rfl), VL.le (vl rfl) (agg_cellsP _)⟩, ⟨⟨(by exact rfl), VL.le (vl rfl) (agg_cellsP _)⟩, ⟨⟨(by exact rfl), VL.le (vl rfl) (agg_cellsP _)⟩, ⟨⟨(by exact rfl), VL.le (vl rfl) (agg_cellsP _)⟩, ⟨⟨(by exact rfl), VL.le (vl rfl) (agg_cellsP _)⟩, ⟨⟨(by exact rfl), VL.le (vl rfl) (agg_cellsP _)⟩, ⟨⟨(by exact rfl), VL.le (vl rfl) (agg_cellsP _)⟩, trivial⟩⟩⟩⟩⟩⟩⟩⟩⟩⟩⟩⟩⟩⟩⟩⟩ (by decide)) ?_)
 refine ac ?_
 refine wk1 0 rfl ?_
 refine ac ?_
 · exact full_le _ _
theorem w_R2Suite {code : Int}  : Fun prog 125 [int code] (tup [agg anyRow, int (if 1 ≤ code ∧ code ≤ 16 then 0 else 8)]) := by
 refine fo func125 rfl ⟨rfl, rfl⟩ fun M0 w0 => (Tr.seq (Tr.regT ?_))
 refine Tl rfl rfl rfl rfl z170 zo170 (fun b1 => ?_)
 refine ap ?_
 refine ag ?_ ?_ <;> intro h1 q1
 refine ac ?_
 refine Tr.cond rfl (fun _ => ?_) (fun h => nomatch h)
 refine Tr.seq (Tr.regT (tp rfl (ok_build (rows := []) rfl bl170 zo170 trivial rfl) (TO.store_all 0 rfl rfl rfl (vl rfl) (Va rfl) rfl sz170 rfl rfl (tm rfl (TO.nil (Fin.go (Tr.ret (Fin.then_ret (Fin.retX2 rfl (RVal.cell 0 rfl rfl agg170 sz170 rfl (Lr)) (RVal.tmp rfl (Lr)) ?_)))))))))
 · exact tup_le ⟨agg_any rfl, int_eq (by rw [if_neg]; simp_all; omega), trivial⟩
 refine an ?_ ?_ <;> intro h2 q2
 refine ap ?_
 refine Tr.ret (Fin.then_ret (Fin.retX2 rfl (RVal.cell 0 rfl rfl agg170 sz170 rfl (Lr)) (RVal.tmp rfl (Lr)) ?_))
 · exact tup_le ⟨agg_any rfl, int_eq (by rw [if_neg]; simp_all), trivial⟩
 have hin : 1 ≤ code ∧ code ≤ 16 := by omega
 refine ac ?_
 refine Tr.seq (Tr.regT (tp rfl (kc0 (w_R2Suites) rfl) ?_))
 refine ap ?_
 refine tp rfl (ok_indexAddr rfl underlying205 sz170 (vl rfl) (vl rfl) (by omega) (any_rows (by omega))) ?_
 refine ap ?_
 refine wk2 2 3 rfl (Tr.ret (Fin.retX2 rfl (RVal.cell 0 rfl rfl agg170 sz170 rfl (Lr)) (RVal.tmp rfl (Lr)) ?_))
 · exact tup_le ⟨Lr, int_eq (by rw [if_pos hin]), trivial⟩
theorem w_R02Has {l : List Int} {v : Int}  : Fun prog 112 [ints l, int v] (bool (l.any fun x => v == x)) := by
 refine fo func112 rfl ⟨rfl, rfl⟩ fun M0 w0 => (Tr.lenm 0 rfl fun hlm_0 => ?_)
 refine a2 ?_
 refine Tr.block (Tr.loopw [(0, _), (1, _)] (kk2 rfl) (fun k : Nat => [(5, int ((k : Nat) : Int))]) (fun k : Nat => k ≤ (l).length ∧ ((l.take k).any (fun x => v == x) = false)) (fun k : Nat => (l).length - k) 0 (⟨Nat.zero_le _, rfl⟩) ⟨ke rfl, trivial⟩ ?_)
 rintro k ⟨hle_k, hinv_k⟩
 refine an ?_ ?_ <;> intro h1 q1
 have hk_k : k < (l).length := lt_of_dec h1
 obtain ⟨x, hx_k⟩ := at_ hk_k
 · repeat' first | (refine bool_eq ?_; symm; rw [List.any_eq_true]; exact ⟨_, List.mem_of_getElem? hx_k, by simp_all⟩) | (exact Fin.fam_same (k + 1) ⟨⟨hk_k, (by rw [List.take_add_one, hx_k, List.any_append, hinv_k]; simp; omega)⟩, by omega⟩ ⟨⟨_, rfl, int_succ k⟩, ke rfl, ke rfl, trivial⟩) | refine co rfl (ok_indexAddr rfl underlying22 sz3 (vl rfl) (vl rfl) (by omega) (by exact row_at (by assumption))) ?_ | refine ac ?_ | (refine Tr.cn rfl ?_ ?_ <;> intro h q)
 have he_k : k = (l).length := by have := ge_of_dec h1; omega
 subst he_k
 refine a3 ?_
 · refine bool_eq ?_; rw [List.take_length] at hinv_k; exact hinv_k.symm
theorem names_iff {l : List (List UInt8)} : namesB l = true ↔ (∀ j, j < l.length → nameAt l j = true) ∧ l.length ≤ 8 := by unfold namesB; rw [Bool.and_eq_true, allI_iff, decide_eq_true_eq]
theorem nameAt_of {l : List (List UInt8)} {k : Nat} {s : List UInt8} (hs : l[k]? = some s) (h1 : named s = true) (h2 : 0 < k → ∃ y, l[k - 1]? = some y ∧ Lib.compareBytes y s = -1) : nameAt l k = true := by
 unfold nameAt; rw [hs]; simp only [Option.getD_some, h1, Bool.true_and, Bool.or_eq_true, decide_eq_true_eq]
 rcases Nat.eq_zero_or_pos k with h0 | h0
 · exact .inl h0
 · obtain ⟨y, hy, hc⟩ := h2 h0; rw [hy]; exact .inr hc
theorem w_R3CheckG {c : Crt}  : Fun prog 159 [agg (rowCr c)] (int (if validB c then 0 else 9)) := by
 refine fo func159 rfl ⟨rfl, rfl⟩ fun M0 w0 => ?_
 refine ac ?_
 refine ag ?_ ?_ <;> intro h1 q1
 refine ac ?_
 refine wk2 1 39 rfl ?_
 refine a2 ?_
 · refine int_eq (if_neg (fun hv => ?_)).symm; have vf := vf_of hv; obtain ⟨v_s0, v_s1, v_iss, v_sub, v_nm, v_key, v_k0, v_k1, v_hash, v_sk0, v_sk1, v_su0, v_su1, v_f0, v_ft, v_t1, v_p0, v_p1, v_ap⟩ := vf; have v_l8 := (names_iff.1 v_nm).2; unfold ofB at v_key v_hash; omega
 refine ag ?_ ?_ <;> intro h2 q2
 refine ac ?_
 refine wk2 1 39 rfl ?_
 refine a2 ?_
 · refine int_eq (if_neg (fun hv => ?_)).symm; have vf := vf_of hv; obtain ⟨v_s0, v_s1, v_iss, v_sub, v_nm, v_key, v_k0, v_k1, v_hash, v_sk0, v_sk1, v_su0, v_su1, v_f0, v_ft, v_t1, v_p0, v_p1, v_ap⟩ := vf; have v_l8 := (names_iff.1 v_nm).2; unfold ofB at v_key v_hash; omega
 refine ac ?_
 refine cy h2 rfl (kc1 (w_RName) rfl rfl) ?_
 refine ag ?_ ?_ <;> intro h3 q3
 refine ac ?_
 refine wk2 1 39 rfl ?_
 refine a2 ?_
 · refine int_eq (if_neg (fun hv => ?_)).symm; have vf := vf_of hv; obtain ⟨v_s0, v_s1, v_iss, v_sub, v_nm, v_key, v_k0, v_k1, v_hash, v_sk0, v_sk1, v_su0, v_su1, v_f0, v_ft, v_t1, v_p0, v_p1, v_ap⟩ := vf; have v_l8 := (names_iff.1 v_nm).2; unfold ofB at v_key v_hash; simp_all
 refine ac ?_
 refine cy h3 rfl (kc1 (w_RName) rfl rfl) ?_
 refine ag ?_ ?_ <;> intro h4 q4
 refine ac ?_
 refine wk2 1 39 rfl ?_
 refine a2 ?_
 · refine int_eq (if_neg (fun hv => ?_)).symm; have vf := vf_of hv; obtain ⟨v_s0, v_s1, v_iss, v_sub, v_nm, v_key, v_k0, v_k1, v_hash, v_sk0, v_sk1, v_su0, v_su1, v_f0, v_ft, v_t1, v_p0, v_p1, v_ap⟩ := vf; have v_l8 := (names_iff.1 v_nm).2; unfold ofB at v_key v_hash; simp_all
 refine ac ?_
 refine cy h4 rfl (kc1 (w_Signature) rfl rfl) ?_
 refine ag ?_ ?_ <;> intro h5 q5
 refine ac ?_
 refine wk2 1 39 rfl ?_
 refine a2 ?_
 · refine int_eq (if_neg (fun hv => ?_)).symm; have vf := vf_of hv; obtain ⟨v_s0, v_s1, v_iss, v_sub, v_nm, v_key, v_k0, v_k1, v_hash, v_sk0, v_sk1, v_su0, v_su1, v_f0, v_ft, v_t1, v_p0, v_p1, v_ap⟩ := vf; have v_l8 := (names_iff.1 v_nm).2; unfold ofB at v_key v_hash; simp_all
 refine ag ?_ ?_ <;> intro h6 q6
 refine ac ?_
 refine wk2 1 39 rfl ?_
 refine a2 ?_
 · refine int_eq (if_neg (fun hv => ?_)).symm; have vf := vf_of hv; obtain ⟨v_s0, v_s1, v_iss, v_sub, v_nm, v_key, v_k0, v_k1, v_hash, v_sk0, v_sk1, v_su0, v_su1, v_f0, v_ft, v_t1, v_p0, v_p1, v_ap⟩ := vf; have v_l8 := (names_iff.1 v_nm).2; unfold ofB at v_key v_hash; omega
 refine ac ?_
 refine wk2 1 39 rfl ?_
 refine Tr.cn rfl ?_ ?_ <;> intro h7 q7
 refine a2 ?_
 · refine int_eq (if_neg (fun hv => ?_)).symm; have vf := vf_of hv; obtain ⟨v_s0, v_s1, v_iss, v_sub, v_nm, v_key, v_k0, v_k1, v_hash, v_sk0, v_sk1, v_su0, v_su1, v_f0, v_ft, v_t1, v_p0, v_p1, v_ap⟩ := vf; have v_l8 := (names_iff.1 v_nm).2; unfold ofB at v_key v_hash; omega
 refine a2 ?_
 refine co rfl (kc1 (w_RValid) rfl rfl) ?_
 refine ag ?_ ?_ <;> intro h8 q8
 refine ac ?_
 refine wk2 1 67 rfl ?_
 refine a2 ?_
 · refine int_eq (if_neg (fun hv => ?_)).symm; have vf := vf_of hv; obtain ⟨v_s0, v_s1, v_iss, v_sub, v_nm, v_key, v_k0, v_k1, v_hash, v_sk0, v_sk1, v_su0, v_su1, v_f0, v_ft, v_t1, v_p0, v_p1, v_ap⟩ := vf; have v_l8 := (names_iff.1 v_nm).2; unfold ofB at v_key v_hash; simp_all; omega
 refine ac ?_
 refine cy h8 rfl (kc1 (w_RKind) rfl rfl) ?_
 refine ag ?_ ?_ <;> intro h9 q9
 refine ac ?_
 refine wk2 1 67 rfl ?_
 refine a2 ?_
 · refine int_eq (if_neg (fun hv => ?_)).symm; have vf := vf_of hv; obtain ⟨v_s0, v_s1, v_iss, v_sub, v_nm, v_key, v_k0, v_k1, v_hash, v_sk0, v_sk1, v_su0, v_su1, v_f0, v_ft, v_t1, v_p0, v_p1, v_ap⟩ := vf; have v_l8 := (names_iff.1 v_nm).2; unfold ofB at v_key v_hash; simp_all
 refine ag ?_ ?_ <;> intro h10 q10
 refine ac ?_
 refine wk2 1 67 rfl ?_
 refine a2 ?_
 · refine int_eq (if_neg (fun hv => ?_)).symm; have vf := vf_of hv; obtain ⟨v_s0, v_s1, v_iss, v_sub, v_nm, v_key, v_k0, v_k1, v_hash, v_sk0, v_sk1, v_su0, v_su1, v_f0, v_ft, v_t1, v_p0, v_p1, v_ap⟩ := vf; have v_l8 := (names_iff.1 v_nm).2; unfold ofB at v_key v_hash; omega
 refine ag ?_ ?_ <;> intro h11 q11
 refine ac ?_
 refine wk2 1 67 rfl ?_
 refine a2 ?_
 · refine int_eq (if_neg (fun hv => ?_)).symm; have vf := vf_of hv; obtain ⟨v_s0, v_s1, v_iss, v_sub, v_nm, v_key, v_k0, v_k1, v_hash, v_sk0, v_sk1, v_su0, v_su1, v_f0, v_ft, v_t1, v_p0, v_p1, v_ap⟩ := vf; have v_l8 := (names_iff.1 v_nm).2; unfold ofB at v_key v_hash; omega
 refine ac ?_
 refine wk2 1 67 rfl ?_
 refine Tr.cn rfl ?_ ?_ <;> intro h12 q12
 refine a2 ?_
 · refine int_eq (if_neg (fun hv => ?_)).symm; have vf := vf_of hv; obtain ⟨v_s0, v_s1, v_iss, v_sub, v_nm, v_key, v_k0, v_k1, v_hash, v_sk0, v_sk1, v_su0, v_su1, v_f0, v_ft, v_t1, v_p0, v_p1, v_ap⟩ := vf; have v_l8 := (names_iff.1 v_nm).2; unfold ofB at v_key v_hash; omega
 refine ac ?_
 refine ag ?_ ?_ <;> intro h13 q13
 refine ac ?_
 refine wk2 1 91 rfl ?_
 refine a2 ?_
 · refine int_eq (if_neg (fun hv => ?_)).symm; have vf := vf_of hv; obtain ⟨v_s0, v_s1, v_iss, v_sub, v_nm, v_key, v_k0, v_k1, v_hash, v_sk0, v_sk1, v_su0, v_su1, v_f0, v_ft, v_t1, v_p0, v_p1, v_ap⟩ := vf; have v_l8 := (names_iff.1 v_nm).2; unfold ofB at v_key v_hash; omega
 refine ag ?_ ?_ <;> intro h14 q14
 refine ac ?_
 refine wk2 1 91 rfl ?_
 refine a2 ?_
 · refine int_eq (if_neg (fun hv => ?_)).symm; have vf := vf_of hv; obtain ⟨v_s0, v_s1, v_iss, v_sub, v_nm, v_key, v_k0, v_k1, v_hash, v_sk0, v_sk1, v_su0, v_su1, v_f0, v_ft, v_t1, v_p0, v_p1, v_ap⟩ := vf; have v_l8 := (names_iff.1 v_nm).2; unfold ofB at v_key v_hash; omega
 refine ag ?_ ?_ <;> intro h15 q15
 refine ag ?_ ?_ <;> intro h16 q16
 refine ac ?_
 refine wk2 1 91 rfl ?_
 refine a2 ?_
 · refine int_eq (if_neg (fun hv => ?_)).symm; have vf := vf_of hv; obtain ⟨v_s0, v_s1, v_iss, v_sub, v_nm, v_key, v_k0, v_k1, v_hash, v_sk0, v_sk1, v_su0, v_su1, v_f0, v_ft, v_t1, v_p0, v_p1, v_ap⟩ := vf; have v_l8 := (names_iff.1 v_nm).2; unfold ofB at v_key v_hash; simp_all
 refine ac ?_
 refine wk2 1 91 rfl ?_
 refine Tr.cn rfl ?_ ?_ <;> intro h17 q17
 refine a2 ?_
 · refine int_eq (if_neg (fun hv => ?_)).symm; have vf := vf_of hv; obtain ⟨v_s0, v_s1, v_iss, v_sub, v_nm, v_key, v_k0, v_k1, v_hash, v_sk0, v_sk1, v_su0, v_su1, v_f0, v_ft, v_t1, v_p0, v_p1, v_ap⟩ := vf; have v_l8 := (names_iff.1 v_nm).2; unfold ofB at v_key v_hash; omega
 refine a2 ?_
 refine Tr.block (Tr.loopw [(1, _)] ⟨ke rfl, trivial⟩ (fun k : Nat => [(3, int ((k : Nat) : Int))]) (fun k : Nat => k ≤ (c.names).length ∧ (∀ j, j < k → nameAt c.names j = true)) (fun k : Nat => (c.names).length - k) 0 (⟨Nat.zero_le _, fun j hj => absurd hj (by omega)⟩) ⟨ke rfl, trivial⟩ ?_)
 rintro k ⟨hle_k, hinv_k⟩
 refine an ?_ ?_ <;> intro h18 q18
 have hk_k : k < (c.names).length := lt_of_dec h18
 obtain ⟨s, hx_k⟩ := at_ hk_k
 refine a2 ?_
 refine co rfl (ok_indexAddr rfl underlying74 sz9 (vl rfl) (vl rfl) (by omega) (row_at hx_k)) (co rfl (kl1 rfl one9 rfl) (co rfl (kc1 (w_RName) rfl rfl) ?_))
 refine ag ?_ ?_ <;> intro h19 q19
 refine ac ?_
 refine wk3 1 3 123 rfl ?_
 refine a2 ?_
 · refine int_eq (if_neg (fun hv => ?_)).symm; have vf := vf_of hv; obtain ⟨v_s0, v_s1, v_iss, v_sub, v_nm, v_key, v_k0, v_k1, v_hash, v_sk0, v_sk1, v_su0, v_su1, v_f0, v_ft, v_t1, v_p0, v_p1, v_ap⟩ := vf; have v_l8 := (names_iff.1 v_nm).2; unfold ofB at v_key v_hash; have hn_ := (names_iff.1 v_nm).1 k (by omega); unfold nameAt at hn_; simp_all
 refine ag ?_ ?_ <;> intro h20 q20
 have hk00 : 0 < k := by simpa using h20
 obtain ⟨y, hy⟩ := at_ (l := c.names) (k := k - 1) (by omega)
 · repeat' first | (refine int_eq (if_neg (fun hv => ?_)).symm; have vf := vf_of hv; obtain ⟨v_s0, v_s1, v_iss, v_sub, v_nm, v_key, v_k0, v_k1, v_hash, v_sk0, v_sk1, v_su0, v_su1, v_f0, v_ft, v_t1, v_p0, v_p1, v_ap⟩ := vf; have v_l8 := (names_iff.1 v_nm).2; unfold ofB at v_key v_hash; have hn_ := (names_iff.1 v_nm).1 k (by omega); unfold nameAt at hn_; simp_all) | (exact Fin.fam_same (k + 1) ⟨⟨hk_k, (fun j hj => by rcases Nat.lt_or_eq_of_le (Nat.le_of_lt_succ hj) with h_ | h_; exact hinv_k j h_; (subst h_; refine nameAt_of hx_k (by simp_all) (fun h0 => ?_); exact ⟨y, hy, by simp_all⟩))⟩, by omega⟩ ⟨⟨_, rfl, int_succ k⟩, ke rfl, trivial⟩) | (refine cy h20 rfl (ok_indexAddr rfl underlying74 sz9 (vl rfl) (vl rfl) (by omega) (by rw [show ((k : Nat) : Int) - 1 = ((k - 1 : Nat) : Int) by omega]; exact row_at hy)) ?_) | refine cy h20 rfl (ok_indexAddr rfl underlying74 sz9 (vl rfl) (vl rfl) (by omega) (row_at hx_k)) (cy h20 rfl (kl1 rfl one9 rfl) (cy h20 rfl (ok_ges rfl (vl rfl) (vl rfl)) ?_)) | refine ac ?_ | (refine Tr.cn rfl ?_ ?_ <;> intro h q)
 have hk00 : ¬ 0 < k := by simpa using h20
 refine ac ?_
 refine wk3 1 3 123 rfl ?_
 refine a2 ?_
 exact Fin.fam_same (k + 1) ⟨⟨hk_k, (fun j hj => by rcases Nat.lt_or_eq_of_le (Nat.le_of_lt_succ hj) with h_ | h_; exact hinv_k j h_; (subst h_; refine nameAt_of hx_k (by simp_all) (fun h0 => ?_); exact absurd h0 hk00))⟩, by omega⟩ ⟨⟨_, rfl, int_succ k⟩, ke rfl, trivial⟩
 have he_k : k = (c.names).length := by have := ge_of_dec h18; omega
 subst he_k
 · repeat' first | (refine int_eq (if_neg (fun hv => ?_)).symm; have vf := vf_of hv; obtain ⟨v_s0, v_s1, v_iss, v_sub, v_nm, v_key, v_k0, v_k1, v_hash, v_sk0, v_sk1, v_su0, v_su1, v_f0, v_ft, v_t1, v_p0, v_p1, v_ap⟩ := vf; have v_l8 := (names_iff.1 v_nm).2; unfold ofB at v_key v_hash; omega) | (refine int_eq (if_pos (of_vf ⟨by omega, by omega, by simp_all, by simp_all, names_iff.2 ⟨hinv_k, by omega⟩, by unfold ofB; simp_all, by omega, by omega, by unfold ofB; simp_all, by omega, by omega, by omega, by omega, by omega, by omega, by omega, by omega, by omega, by right; omega⟩)).symm) | refine ac ?_ | (refine Tr.cn rfl ?_ ?_ <;> intro h q) | (refine Ch.cg rfl rfl rfl ?_ ?_ <;> intro h q)
 refine ac ?_
 refine wk2 1 91 rfl ?_
 refine Tr.cn rfl ?_ ?_ <;> intro h26 q26
 refine a2 ?_
 · refine int_eq (if_neg (fun hv => ?_)).symm; have vf := vf_of hv; obtain ⟨v_s0, v_s1, v_iss, v_sub, v_nm, v_key, v_k0, v_k1, v_hash, v_sk0, v_sk1, v_su0, v_su1, v_f0, v_ft, v_t1, v_p0, v_p1, v_ap⟩ := vf; have v_l8 := (names_iff.1 v_nm).2; unfold ofB at v_key v_hash; omega
 refine a2 ?_
 refine Tr.block (Tr.loopw [(1, _)] ⟨ke rfl, trivial⟩ (fun k : Nat => [(3, int ((k : Nat) : Int))]) (fun k : Nat => k ≤ (c.names).length ∧ (∀ j, j < k → nameAt c.names j = true)) (fun k : Nat => (c.names).length - k) 0 (⟨Nat.zero_le _, fun j hj => absurd hj (by omega)⟩) ⟨ke rfl, trivial⟩ ?_)
 rintro k ⟨hle_k, hinv_k⟩
 refine an ?_ ?_ <;> intro h27 q27
 have hk_k : k < (c.names).length := lt_of_dec h27
 obtain ⟨s, hx_k⟩ := at_ hk_k
 refine a2 ?_
 refine co rfl (ok_indexAddr rfl underlying74 sz9 (vl rfl) (vl rfl) (by omega) (row_at hx_k)) (co rfl (kl1 rfl one9 rfl) (co rfl (kc1 (w_RName) rfl rfl) ?_))
 refine ag ?_ ?_ <;> intro h28 q28
 refine ac ?_
 refine wk3 1 3 123 rfl ?_
 refine a2 ?_
 · refine int_eq (if_neg (fun hv => ?_)).symm; have vf := vf_of hv; obtain ⟨v_s0, v_s1, v_iss, v_sub, v_nm, v_key, v_k0, v_k1, v_hash, v_sk0, v_sk1, v_su0, v_su1, v_f0, v_ft, v_t1, v_p0, v_p1, v_ap⟩ := vf; have v_l8 := (names_iff.1 v_nm).2; unfold ofB at v_key v_hash; have hn_ := (names_iff.1 v_nm).1 k (by omega); unfold nameAt at hn_; simp_all
 refine ag ?_ ?_ <;> intro h29 q29
 have hk00 : 0 < k := by simpa using h29
 obtain ⟨y, hy⟩ := at_ (l := c.names) (k := k - 1) (by omega)
 · repeat' first | (refine int_eq (if_neg (fun hv => ?_)).symm; have vf := vf_of hv; obtain ⟨v_s0, v_s1, v_iss, v_sub, v_nm, v_key, v_k0, v_k1, v_hash, v_sk0, v_sk1, v_su0, v_su1, v_f0, v_ft, v_t1, v_p0, v_p1, v_ap⟩ := vf; have v_l8 := (names_iff.1 v_nm).2; unfold ofB at v_key v_hash; have hn_ := (names_iff.1 v_nm).1 k (by omega); unfold nameAt at hn_; simp_all) | (exact Fin.fam_same (k + 1) ⟨⟨hk_k, (fun j hj => by rcases Nat.lt_or_eq_of_le (Nat.le_of_lt_succ hj) with h_ | h_; exact hinv_k j h_; (subst h_; refine nameAt_of hx_k (by simp_all) (fun h0 => ?_); exact ⟨y, hy, by simp_all⟩))⟩, by omega⟩ ⟨⟨_, rfl, int_succ k⟩, ke rfl, trivial⟩) | (refine cy h29 rfl (ok_indexAddr rfl underlying74 sz9 (vl rfl) (vl rfl) (by omega) (by rw [show ((k : Nat) : Int) - 1 = ((k - 1 : Nat) : Int) by omega]; exact row_at hy)) ?_) | refine cy h29 rfl (ok_indexAddr rfl underlying74 sz9 (vl rfl) (vl rfl) (by omega) (row_at hx_k)) (cy h29 rfl (kl1 rfl one9 rfl) (cy h29 rfl (ok_ges rfl (vl rfl) (vl rfl)) ?_)) | refine ac ?_ | (refine Tr.cn rfl ?_ ?_ <;> intro h q)
 have hk00 : ¬ 0 < k := by simpa using h29
 refine ac ?_
 refine wk3 1 3 123 rfl ?_
 refine a2 ?_
 exact Fin.fam_same (k + 1) ⟨⟨hk_k, (fun j hj => by rcases Nat.lt_or_eq_of_le (Nat.le_of_lt_succ hj) with h_ | h_; exact hinv_k j h_; (subst h_; refine nameAt_of hx_k (by simp_all) (fun h0 => ?_); exact absurd h0 hk00))⟩, by omega⟩ ⟨⟨_, rfl, int_succ k⟩, ke rfl, trivial⟩
 have he_k : k = (c.names).length := by have := ge_of_dec h27; omega
 subst he_k
 · repeat' first | (refine int_eq (if_neg (fun hv => ?_)).symm; have vf := vf_of hv; obtain ⟨v_s0, v_s1, v_iss, v_sub, v_nm, v_key, v_k0, v_k1, v_hash, v_sk0, v_sk1, v_su0, v_su1, v_f0, v_ft, v_t1, v_p0, v_p1, v_ap⟩ := vf; have v_l8 := (names_iff.1 v_nm).2; unfold ofB at v_key v_hash; omega) | (refine int_eq (if_pos (of_vf ⟨by omega, by omega, by simp_all, by simp_all, names_iff.2 ⟨hinv_k, by omega⟩, by unfold ofB; simp_all, by omega, by omega, by unfold ofB; simp_all, by omega, by omega, by omega, by omega, by omega, by omega, by omega, by omega, by omega, by left; simp_all⟩)).symm) | refine ac ?_ | (refine Tr.cn rfl ?_ ?_ <;> intro h q) | (refine Ch.cg rfl rfl rfl ?_ ?_ <;> intro h q)
theorem and1 {a b : Bool} (h : (a && b) = true) : a = true := by simp at h; exact h.1
theorem and2 {a b : Bool} (h : (a && b) = true) : b = true := by simp at h; exact h.2
theorem pigeon : ∀ (n : Nat) (l : List Int), (∀ x ∈ l, 1 ≤ x ∧ x ≤ (n : Int)) → l.Nodup → l.length ≤ n
 | 0, l, h, _ => by
  cases l with
  | nil => exact Nat.le_refl _
  | cons a l => have := h a (List.mem_cons_self ..); omega
 | n + 1, l, h, hn => by
  have ih := pigeon n (l.erase ((n : Int) + 1)) (fun x hx => by
   have h1 := h x (List.mem_of_mem_erase hx)
   have h2 := (hn.mem_erase_iff.1 hx).1
   omega) (hn.erase _)
  rw [List.length_erase] at ih
  split at ih <;> omega
theorem suites_16 {l : List Int} (h : suitesB l = true) : l.length ≤ 16 := by
 refine pigeon 16 l (fun x hx => ?_) ?_
 ·
  obtain ⟨j, hj⟩ := List.getElem?_of_mem hx
  have h1 := allI_iff.1 (show allI (suiteAt l) l.length = true from h) j (lt_of_at hj)
  unfold suiteAt at h1; rw [getD_at hj] at h1
  have := and1 h1
  simpa using this
 ·
  refine List.pairwise_iff_getElem.2 fun i j hi hj hij he => ?_
  have := suites_one h (List.getElem?_eq_getElem hi) (by rw [he]; exact List.getElem?_eq_getElem hj)
  omega
theorem all_at {p : Int → Bool} {l : List Int} (h : ∀ j, j < l.length → p (l[j]?.getD 0) = true) : l.all p = true := List.all_eq_true.2 fun x hx => by
 obtain ⟨j, hj⟩ := List.getElem?_of_mem hx
 have := h j (lt_of_at hj)
 rw [getD_at hj] at this; exact this

theorem w_R5Right {alg bits id : Int} {l : List Crt}  : Fun prog 126 [agg [int alg, int bits], int id, certs l] (bool (showsB alg bits id l)) := by
 refine fo func126 rfl ⟨rfl, rfl⟩ fun M0 w0 => (Tr.lenm 2 rfl fun hlm_2 => ?_)
 refine a2 ?_
 refine co rfl (kc1 (w_Signature) rfl rfl) ?_
 refine ag ?_ ?_ <;> intro h1 q1
 refine ac ?_
 refine wk4 1 2 3 23 rfl ?_
 refine a2 ?_
 · refine bool_eq ?_; rw [showsB_eq]; unfold ofB keyB; simp_all
 refine ag ?_ ?_ <;> intro h2 q2
 refine ac ?_
 refine wk4 1 2 3 23 rfl ?_
 refine a2 ?_
 · refine bool_eq ?_; rw [showsB_eq]; unfold ofB keyB; simp_all; omega
 refine ag ?_ ?_ <;> intro h3 q3
 refine ac ?_
 refine wk4 1 2 3 23 rfl ?_
 refine a2 ?_
 · refine bool_eq ?_; rw [showsB_eq]; unfold ofB keyB; simp_all; omega
 refine ac ?_
 refine wk4 1 2 3 23 rfl ?_
 refine Tr.cn rfl ?_ ?_ <;> intro h4 q4
 refine a2 ?_
 · refine bool_eq ?_; rw [showsB_eq]; unfold ofB keyB; simp_all; omega
 refine a2 ?_
 refine Tr.block (Tr.loopw [(1, _), (2, _), (3, _)] (kk3 rfl) (fun k : Nat => [(7, int ((k : Nat) : Int))]) (fun k : Nat => k ≤ (l).length ∧ (∀ j y, j < k → l[j]? = some y → (!validB y) = false)) (fun k : Nat => (l).length - k) 0 (⟨Nat.zero_le _, fun j y hj => absurd hj (by omega)⟩) ⟨ke rfl, trivial⟩ ?_)
 rintro k ⟨hle_k, hinv_k⟩
 refine an ?_ ?_ <;> intro h5 q5
 have hk_k : k < (l).length := lt_of_dec h5
 obtain ⟨c, hx_k⟩ := at_ hk_k
 · repeat' first | (refine bool_eq ?_; rw [showsB_eq]; unfold ofB keyB; rw [all_hit (p := validB) hx_k (by simp_all)]; simp) | exact Fin.fam_same (k + 1) ⟨⟨hk_k, step_no (p := fun c => !validB c) hx_k (by simp_all) hinv_k⟩, by omega⟩ ⟨⟨_, rfl, int_succ k⟩, ke rfl, ke rfl, ke rfl, trivial⟩ | refine co rfl (ok_indexAddr rfl underlying25 sz131 (vl rfl) (vl rfl) (by omega) (row_at hx_k)) (co rfl (ok_loadA rfl agg131 sz131 (vl rfl) rfl rfl) (co rfl (kc1 (w_R3CheckG) rfl rfl) ?_)) | refine ac ?_ | (refine Tr.cn rfl ?_ ?_ <;> intro h q)
 have he_k : k = (l).length := by have := ge_of_dec h5; omega
 subst he_k
 have hall := all_end hinv_k
 refine ac ?_
 refine ag ?_ ?_ <;> intro h7 q7
 refine ac ?_
 refine wk1 6 rfl ?_
 refine ac ?_
 · refine bool_eq ?_; rw [showsB_eq]; unfold ofB keyB; rw [hall, headB_nil (by simp_all)]; simp_all
 obtain ⟨c0, hc0⟩ := at_ (l := l) (k := 0) (by have := h7; simp at this; exact List.length_pos_iff.2 this)
 refine cym h7 rfl ?_
 refine cy h7 rfl (ok_indexAddr rfl underlying25 sz131 (vl rfl) (vl rfl) (by omega) (row_at (k := 0) hc0)) ?_
 refine ac ?_
 refine cy h7 rfl (ok_eq24 rfl (vl rfl) (vl rfl)) (cym h7 rfl ?_)
 refine Ch.cs 46 rfl ?_ ?_ <;> intro h8 q8
 refine cym h8 rfl ?_
 refine cy h8 rfl (ok_indexAddr rfl underlying25 sz131 (vl rfl) (vl rfl) (by omega) (row_at (k := 0) hc0)) ?_
 refine ac ?_
 refine wk1 6 rfl ?_
 refine ac ?_
 · refine bool_eq ?_; rw [showsB_eq]; unfold ofB keyB; rw [hall, headB_at hc0]; clear hall hinv_k hc0; simp_all; omega
 refine ac ?_
 refine wk1 6 rfl ?_
 refine ac ?_
 · refine bool_eq ?_; rw [showsB_eq]; unfold ofB keyB; rw [hall, headB_at hc0]; clear hall hinv_k hc0; simp_all
theorem w_R9CheckH {e : Ept} (hs3 : e.hashes.length ≤ 17592186044416) : Fun prog 77 [agg (rowEp e)] (int (if eptB e then 0 else 19)) := by
 refine fo func77 rfl ⟨rfl, rfl⟩ fun M0 w0 => ?_
 refine ac ?_
 refine ac ?_
 refine co rfl (kc1 (w_R6Word) rfl rfl) ?_
 refine ac ?_
 refine Ch.cs 13 rfl ?_ ?_ <;> intro h1 q1
 refine ac ?_
 refine wk2 1 47 rfl ?_
 refine ac ?_
 refine ac ?_
 · refine int_eq (if_neg (fun hv => ?_)).symm; have ok := eptB_iff.1 hv; have v1 := ok.name; have v2 := ok.least; have v3 := ok.lm; have v4 := ok.most; have v5 := suites_16 ok.suites; have v6 := ok.idl; have v7 := ok.ancl; simp_all
 refine ac ?_
 refine Ch.cs 18 rfl ?_ ?_ <;> intro h2 q2
 refine ac ?_
 refine wk2 1 47 rfl ?_
 refine ac ?_
 refine ac ?_
 · refine int_eq (if_neg (fun hv => ?_)).symm; have ok := eptB_iff.1 hv; have v1 := ok.name; have v2 := ok.least; have v3 := ok.lm; have v4 := ok.most; have v5 := suites_16 ok.suites; have v6 := ok.idl; have v7 := ok.ancl; omega
 refine ac ?_
 refine Ch.cs 25 rfl ?_ ?_ <;> intro h3 q3
 refine ac ?_
 refine wk2 1 47 rfl ?_
 refine ac ?_
 refine ac ?_
 · refine int_eq (if_neg (fun hv => ?_)).symm; have ok := eptB_iff.1 hv; have v1 := ok.name; have v2 := ok.least; have v3 := ok.lm; have v4 := ok.most; have v5 := suites_16 ok.suites; have v6 := ok.idl; have v7 := ok.ancl; omega
 refine ac ?_
 refine Ch.cs 30 rfl ?_ ?_ <;> intro h4 q4
 refine ac ?_
 refine wk2 1 47 rfl ?_
 refine ac ?_
 refine ac ?_
 · refine int_eq (if_neg (fun hv => ?_)).symm; have ok := eptB_iff.1 hv; have v1 := ok.name; have v2 := ok.least; have v3 := ok.lm; have v4 := ok.most; have v5 := suites_16 ok.suites; have v6 := ok.idl; have v7 := ok.ancl; omega
 refine ac ?_
 refine Ch.cs 36 rfl ?_ ?_ <;> intro h5 q5
 refine ac ?_
 refine wk2 1 47 rfl ?_
 refine ac ?_
 refine ac ?_
 · refine int_eq (if_neg (fun hv => ?_)).symm; have ok := eptB_iff.1 hv; have v1 := ok.name; have v2 := ok.least; have v3 := ok.lm; have v4 := ok.most; have v5 := suites_16 ok.suites; have v6 := ok.idl; have v7 := ok.ancl; omega
 refine ac ?_
 refine Ch.cs 42 rfl ?_ ?_ <;> intro h6 q6
 refine ac ?_
 refine wk2 1 47 rfl ?_
 refine ac ?_
 refine ac ?_
 · refine int_eq (if_neg (fun hv => ?_)).symm; have ok := eptB_iff.1 hv; have v1 := ok.name; have v2 := ok.least; have v3 := ok.lm; have v4 := ok.most; have v5 := suites_16 ok.suites; have v6 := ok.idl; have v7 := ok.ancl; omega
 refine ac ?_
 refine wk2 1 47 rfl ?_
 refine Tr.cn rfl ?_ ?_ <;> intro h7 q7
 refine ac ?_
 refine ac ?_
 · refine int_eq (if_neg (fun hv => ?_)).symm; have ok := eptB_iff.1 hv; have v1 := ok.name; have v2 := ok.least; have v3 := ok.lm; have v4 := ok.most; have v5 := suites_16 ok.suites; have v6 := ok.idl; have v7 := ok.ancl; omega
 refine ac ?_
 refine ac ?_
 refine Tr.block (Tr.loopw [(1, _)] ⟨ke rfl, trivial⟩ (fun i : Nat => [(3, int ((i : Nat) : Int))]) (fun i : Nat => i ≤ (e.suites).length ∧ (∀ j, j < i → suiteAt e.suites j = true)) (fun i : Nat => (e.suites).length - i) 0 (⟨Nat.zero_le _, fun j hj => absurd hj (by omega)⟩) ⟨ke rfl, trivial⟩ ?_)
 rintro i ⟨hle_i, hinv_i⟩
 refine ac ?_
 refine Tr.cn rfl ?_ ?_ <;> intro h8 q8
 have hk_i : i < (e.suites).length := lt_of_dec h8
 obtain ⟨x, hx_i⟩ := at_ hk_i
 have hg := getD_at (d := (0 : Int)) hx_i
 refine ac ?_
 refine ao ?_
 refine tp rfl (ok_indexAddr rfl underlying22 sz3 (vl rfl) (vl rfl) (by omega) (row_at hx_i)) (tp rfl (kl1 rfl one3 rfl) (tp rfl (kc1 (w_R2Suite) rfl rfl) ?_))
 refine ao ?_
 refine Tl rfl rfl rfl rfl z170 zo170 (fun b1 => ?_)
 refine sf 0 4 ⟨rfl, rfl, rfl⟩ rfl rfl rfl rfl ?_
 refine ao ?_
 refine wk3 1 3 5 rfl ?_
 refine ac ?_
 refine Ch.cs 66 rfl ?_ ?_ <;> intro h9 q9
 have hnin : ¬ (1 ≤ x ∧ x ≤ 16) := by intro hh; rw [if_pos hh] at h9; exact absurd h9 (by decide)
 refine ac ?_
 refine wk3 1 3 77 rfl ?_
 refine ac ?_
 refine ac ?_
 · refine int_eq (if_neg (fun hv => ?_)).symm; have ok := eptB_iff.1 hv; have h_ := allI_iff.1 (show allI (suiteAt e.suites) e.suites.length = true from ok.suites) i (by omega); unfold suiteAt at h_; rw [hg] at h_; exact hnin (by simpa using and1 h_)
 have hin : 1 ≤ x ∧ x ≤ 16 := by refine Decidable.byContradiction fun hh => ?_; rw [if_neg hh] at h9; exact absurd h9 (by decide)
 refine ac ?_
 refine cy h9 rfl (ok_sliceTo rfl underlying22 sz3 (vl rfl) (vl rfl) (by omega) (by simp; omega)) ?_
 refine ac ?_
 refine cy h9 rfl (ok_indexAddr rfl underlying22 sz3 (vl rfl) (vl rfl) (by omega) (row_at hx_i)) (cy h9 rfl (kl1 rfl one3 rfl) ?_)
 refine cy h9 rfl (ok_call rfl (w_R02Has (l := e.suites.take i) (v := x)) ⟨⟨_, rfl, Pr.le_of_eq (by rw [← List.map_take, Int.toNat_natCast])⟩, ke rfl, trivial⟩) ?_
 refine ac ?_
 refine wk3 1 3 77 rfl ?_
 refine Tr.cn rfl ?_ ?_ <;> intro h10 q10
 refine ac ?_
 refine ac ?_
 · refine int_eq (if_neg (fun hv => ?_)).symm; have ok := eptB_iff.1 hv; have h_ := allI_iff.1 (show allI (suiteAt e.suites) e.suites.length = true from ok.suites) i (by omega); unfold suiteAt at h_; rw [hg] at h_; exact absurd (by assumption : ((e.suites.take i).any fun y => x == y) = true) (by have h2 := and2 h_; rw [Bool.not_eq_true'] at h2; rw [h2]; decide)
 refine ac ?_
 refine ac ?_
 exact Fin.fam_same (i + 1) ⟨⟨hk_i, allI_step hinv_i (by unfold suiteAt; rw [hg]; rw [decide_eq_true hin]; simp_all)⟩, by omega⟩ ⟨⟨_, rfl, int_succ i⟩, ke rfl, trivial⟩
 have he_i : i = (e.suites).length := by have := ge_of_dec h8; omega
 subst he_i
 refine ac ?_
 refine ac ?_
 refine Tr.block (Tr.loopw [(1, _)] ⟨ke rfl, trivial⟩ (fun m : Nat => [(6, int ((m : Nat) : Int))]) (fun m : Nat => m ≤ (e.ids).length ∧ (∀ j y, j < m → e.ids[j]? = some y → (!idB y) = false)) (fun m : Nat => (e.ids).length - m) 0 (⟨Nat.zero_le _, fun j y hj => absurd hj (by omega)⟩) ⟨ke rfl, trivial⟩ ?_)
 rintro m ⟨hle_m, hinv_m⟩
 refine ac ?_
 refine Tr.cn rfl ?_ ?_ <;> intro h11 q11
 have hk_m : m < (e.ids).length := lt_of_dec h11
 obtain ⟨x, hx_m⟩ := at_ hk_m
 refine ac ?_
 refine ac ?_
 refine co rfl (ok_indexAddr rfl underlying30 sz27 (vl rfl) (vl rfl) (by omega) (row_at hx_m)) ?_
 refine ac ?_
 refine co rfl (ok_indexAddr rfl underlying30 sz27 (vl rfl) (vl rfl) (by omega) (row_at hx_m)) ?_
 refine ac ?_
 refine co rfl (ok_indexAddr rfl underlying30 sz27 (vl rfl) (vl rfl) (by omega) (row_at hx_m)) ?_
 refine ac ?_
 refine co rfl (kc3 (w_R5Right) rfl rfl rfl rfl) ?_
 refine ac ?_
 refine wk3 1 6 104 rfl ?_
 refine Tr.cn rfl ?_ ?_ <;> intro h12 q12
 refine ac ?_
 refine ac ?_
 · refine int_eq (if_neg (fun hv => ?_)).symm; have ok := eptB_iff.1 hv; have h_ := List.all_eq_true.1 ok.ids x (List.mem_of_getElem? hx_m); unfold idB at h_; simp_all
 refine ac ?_
 refine ac ?_
 exact Fin.fam_same (m + 1) ⟨⟨hk_m, step_no (p := fun c => !idB c) hx_m (by unfold idB; simp_all) hinv_m⟩, by omega⟩ ⟨⟨_, rfl, int_succ m⟩, ke rfl, trivial⟩
 have he_m : m = (e.ids).length := by have := ge_of_dec h11; omega
 subst he_m
 have hall := all_end hinv_m
 refine ac ?_
 refine ac ?_
 refine Tr.block (Tr.loopw [(1, _)] ⟨ke rfl, trivial⟩ (fun o : Nat => [(7, int ((o : Nat) : Int))]) (fun o : Nat => o ≤ (e.anchors).length ∧ (∀ j, j < o → (ascAt e.anchors j && keyB (e.anchors[j]?.getD 0)) = true)) (fun o : Nat => (e.anchors).length - o) 0 (⟨Nat.zero_le _, fun j hj => absurd hj (by omega)⟩) ⟨ke rfl, trivial⟩ ?_)
 rintro o ⟨hle_o, hinv_o⟩
 refine ac ?_
 refine Tr.cn rfl ?_ ?_ <;> intro h13 q13
 have hk_o : o < (e.anchors).length := lt_of_dec h13
 obtain ⟨a, hx_o⟩ := at_ hk_o
 have hg := getD_at (d := (0 : Int)) hx_o
 refine ac ?_
 refine ac ?_
 refine co rfl (ok_indexAddr rfl underlying22 sz3 (vl rfl) (vl rfl) (by omega) (row_at hx_o)) ?_
 refine ac ?_
 refine Ch.cs 118 rfl ?_ ?_ <;> intro h14 q14
 refine ac ?_
 refine wk3 1 7 143 rfl ?_
 refine ac ?_
 refine ac ?_
 · refine int_eq (if_neg (fun hv => ?_)).symm; have ok := eptB_iff.1 hv; have h_ := List.all_eq_true.1 ok.keys a (List.mem_of_getElem? hx_o); unfold keyB at h_; simp at h_; omega
 refine ac ?_
 refine cy h14 rfl (ok_indexAddr rfl underlying22 sz3 (vl rfl) (vl rfl) (by omega) (row_at hx_o)) ?_
 refine ac ?_
 refine Ch.cs 126 rfl ?_ ?_ <;> intro h15 q15
 refine ac ?_
 refine wk3 1 7 143 rfl ?_
 refine ac ?_
 refine ac ?_
 · refine int_eq (if_neg (fun hv => ?_)).symm; have ok := eptB_iff.1 hv; have h_ := List.all_eq_true.1 ok.keys a (List.mem_of_getElem? hx_o); unfold keyB at h_; simp at h_; omega
 refine ac ?_
 refine Ch.cs 129 rfl ?_ ?_ <;> intro h16 q16
 have hk0 : 0 < o := by simpa using h16
 obtain ⟨y, hy⟩ := at_ (l := e.anchors) (k := o - 1) (by omega)
 have hgy := getD_at (d := (0 : Int)) hy
 refine ac ?_
 refine cy h16 rfl (ok_indexAddr rfl underlying22 sz3 (vl rfl) (vl rfl) (by omega) (by rw [show ((o : Nat) : Int) - 1 = ((o - 1 : Nat) : Int) by omega]; exact row_at hy)) ?_
 refine ac ?_
 refine cy h16 rfl (ok_indexAddr rfl underlying22 sz3 (vl rfl) (vl rfl) (by omega) (row_at hx_o)) ?_
 refine ac ?_
 refine wk3 1 7 143 rfl ?_
 refine Tr.cn rfl ?_ ?_ <;> intro h17 q17
 refine ac ?_
 refine ac ?_
 · refine int_eq (if_neg (fun hv => ?_)).symm; have ok := eptB_iff.1 hv; have h_ := allI_iff.1 (show allI (ascAt e.anchors) e.anchors.length = true from ok.anc) o (by omega); unfold ascAt at h_; rw [hg, hgy] at h_; simp at h_; omega
 refine ac ?_
 refine ac ?_
 exact Fin.fam_same (o + 1) ⟨⟨hk_o, (fun j hj => by rcases Nat.lt_or_eq_of_le (Nat.le_of_lt_succ hj) with h_ | h_; exact hinv_o j h_; (subst h_; unfold ascAt keyB; rw [hg]; rw [hgy]; simp_all))⟩, by omega⟩ ⟨⟨_, rfl, int_succ o⟩, ke rfl, trivial⟩
 have hk00 : ¬ 0 < o := by simpa using h16
 refine ac ?_
 refine wk3 1 7 143 rfl ?_
 refine ac ?_
 refine ac ?_
 exact Fin.fam_same (o + 1) ⟨⟨hk_o, (fun j hj => by rcases Nat.lt_or_eq_of_le (Nat.le_of_lt_succ hj) with h_ | h_; exact hinv_o j h_; (subst h_; unfold ascAt keyB; rw [hg]; simp_all))⟩, by omega⟩ ⟨⟨_, rfl, int_succ o⟩, ke rfl, trivial⟩
 have he_o : o = (e.anchors).length := by have := ge_of_dec h13; omega
 subst he_o
 refine ac ?_
 refine ac ?_
 refine Tr.block (Tr.loopw [(1, _)] ⟨ke rfl, trivial⟩ (fun q : Nat => [(8, int ((q : Nat) : Int))]) (fun q : Nat => q ≤ (e.hashes).length ∧ (∀ j, j < q → (ascAt e.hashes j && hashB (e.hashes[j]?.getD 0)) = true)) (fun q : Nat => (e.hashes).length - q) 0 (⟨Nat.zero_le _, fun j hj => absurd hj (by omega)⟩) ⟨ke rfl, trivial⟩ ?_)
 rintro q ⟨hle_q, hinv_q⟩
 refine ac ?_
 refine Tr.cn rfl ?_ ?_ <;> intro h18 q18
 have hk_q : q < (e.hashes).length := lt_of_dec h18
 obtain ⟨a, hx_q⟩ := at_ hk_q
 have hg := getD_at (d := (0 : Int)) hx_q
 refine ac ?_
 refine ac ?_
 refine co rfl (ok_indexAddr rfl underlying22 sz3 (vl rfl) (vl rfl) (by omega) (row_at hx_q)) (co rfl (kl1 rfl one3 rfl) (co rfl (kc1 (w_RKind) rfl rfl) ?_))
 refine ac ?_
 refine Ch.cs 158 rfl ?_ ?_ <;> intro h19 q19
 refine ac ?_
 refine wk3 1 8 175 rfl ?_
 refine ac ?_
 refine ac ?_
 · refine int_eq (if_neg (fun hv => ?_)).symm; have ok := eptB_iff.1 hv; have h_ := List.all_eq_true.1 ok.hsh a (List.mem_of_getElem? hx_q); unfold hashB at h_; simp_all
 refine ac ?_
 refine Ch.cs 161 rfl ?_ ?_ <;> intro h20 q20
 have hk0 : 0 < q := by simpa using h20
 obtain ⟨y, hy⟩ := at_ (l := e.hashes) (k := q - 1) (by omega)
 have hgy := getD_at (d := (0 : Int)) hy
 refine ac ?_
 refine cy h20 rfl (ok_indexAddr rfl underlying22 sz3 (vl rfl) (vl rfl) (by omega) (by rw [show ((q : Nat) : Int) - 1 = ((q - 1 : Nat) : Int) by omega]; exact row_at hy)) ?_
 refine ac ?_
 refine cy h20 rfl (ok_indexAddr rfl underlying22 sz3 (vl rfl) (vl rfl) (by omega) (row_at hx_q)) ?_
 refine ac ?_
 refine wk3 1 8 175 rfl ?_
 refine Tr.cn rfl ?_ ?_ <;> intro h21 q21
 refine ac ?_
 refine ac ?_
 · refine int_eq (if_neg (fun hv => ?_)).symm; have ok := eptB_iff.1 hv; have h_ := allI_iff.1 (show allI (ascAt e.hashes) e.hashes.length = true from ok.hash) q (by omega); unfold ascAt at h_; rw [hg, hgy] at h_; simp at h_; omega
 refine ac ?_
 refine ac ?_
 exact Fin.fam_same (q + 1) ⟨⟨hk_q, (fun j hj => by rcases Nat.lt_or_eq_of_le (Nat.le_of_lt_succ hj) with h_ | h_; exact hinv_q j h_; (subst h_; unfold ascAt hashB; rw [hg]; rw [hgy]; simp_all))⟩, by omega⟩ ⟨⟨_, rfl, int_succ q⟩, ke rfl, trivial⟩
 have hk00 : ¬ 0 < q := by simpa using h20
 refine ac ?_
 refine wk3 1 8 175 rfl ?_
 refine ac ?_
 refine ac ?_
 exact Fin.fam_same (q + 1) ⟨⟨hk_q, (fun j hj => by rcases Nat.lt_or_eq_of_le (Nat.le_of_lt_succ hj) with h_ | h_; exact hinv_q j h_; (subst h_; unfold ascAt hashB; rw [hg]; simp_all))⟩, by omega⟩ ⟨⟨_, rfl, int_succ q⟩, ke rfl, trivial⟩
 have he_q : q = (e.hashes).length := by have := ge_of_dec h18; omega
 subst he_q
 refine ac ?_
 refine ac ?_
 refine ac ?_
 · refine int_eq (if_pos (eptB_iff.2 ⟨by simp_all, by omega, by omega, by omega, allI_iff.2 hinv_i, by omega, by omega, allI_iff.2 (fun j hj => and1 (hinv_o j hj)), allI_iff.2 (fun j hj => and1 (hinv_q j hj)), hall, all_at (fun j hj => and2 (hinv_o j hj)), all_at (fun j hj => and2 (hinv_q j hj))⟩)).symm
theorem w_R9Check {e : Ept} (hsm : e.small) : Fun Tryz.prog 77 [agg (rowEp e)] (int (if eptB e then 0 else 19)) := w_R9CheckH (by have := hsm.hashes; omega)
structure RestP (e x : Ept) (k : Int) : Prop where
 suites : k = 1 ∨ k = 2 → ({ x with suites := e.suites } : Ept) = e
 most : k = 3 → ({ x with most := e.most } : Ept) = e
 least : k = 4 → ({ x with least := e.least } : Ept) = e
 ids : k = 5 ∨ k = 6 → ({ x with ids := e.ids } : Ept) = e
 anchors : k = 7 ∨ k = 8 → ({ x with anchors := e.anchors } : Ept) = e
 hashes : k = 9 ∨ k = 10 → ({ x with hashes := e.hashes } : Ept) = e
 fall : k = 11 → ({ x with fall := e.fall } : Ept) = e
 own : k = 12 → ({ x with own := e.own } : Ept) = e
theorem rest_step {e : Ept} {c : Chg} {x : Ept} {b : Chg} (hc : okCh c) (h : stepR e c = .ok (x, b)) : RestP e x c.kind := by
 rcases kinds12 hc.1 with hk | hk | hk | hk | hk | hk | hk | hk | hk | hk | hk | hk
 ·
  rw [stepR_1 hk] at h; rw [hk]
  (repeat' (split at h)) <;> first | (cases h; done) | (injection h with h; obtain ⟨rfl, rfl⟩ := Prod.mk.inj h; constructor <;> intro h0 <;> first | rfl | (exfalso; omega))
 ·
  rw [stepR_2 hk] at h; rw [hk]
  (repeat' (split at h)) <;> first | (cases h; done) | (injection h with h; obtain ⟨rfl, rfl⟩ := Prod.mk.inj h; constructor <;> intro h0 <;> first | rfl | (exfalso; omega))
 ·
  rw [stepR_3 hk] at h; rw [hk]
  (repeat' (split at h)) <;> first | (cases h; done) | (injection h with h; obtain ⟨rfl, rfl⟩ := Prod.mk.inj h; constructor <;> intro h0 <;> first | rfl | (exfalso; omega))
 ·
  rw [stepR_4 hk] at h; rw [hk]
  (repeat' (split at h)) <;> first | (cases h; done) | (injection h with h; obtain ⟨rfl, rfl⟩ := Prod.mk.inj h; constructor <;> intro h0 <;> first | rfl | (exfalso; omega))
 ·
  rw [stepR_5 hk] at h; rw [hk]
  (repeat' (split at h)) <;> first | (cases h; done) | (injection h with h; obtain ⟨rfl, rfl⟩ := Prod.mk.inj h; constructor <;> intro h0 <;> first | rfl | (exfalso; omega))
 ·
  rw [stepR_6 hk] at h; rw [hk]
  (repeat' (split at h)) <;> first | (cases h; done) | (injection h with h; obtain ⟨rfl, rfl⟩ := Prod.mk.inj h; constructor <;> intro h0 <;> first | rfl | (exfalso; omega))
 ·
  rw [stepR_7 hk] at h; rw [hk]
  (repeat' (split at h)) <;> first | (cases h; done) | (injection h with h; obtain ⟨rfl, rfl⟩ := Prod.mk.inj h; constructor <;> intro h0 <;> first | rfl | (exfalso; omega))
 ·
  rw [stepR_8 hk] at h; rw [hk]
  (repeat' (split at h)) <;> first | (cases h; done) | (injection h with h; obtain ⟨rfl, rfl⟩ := Prod.mk.inj h; constructor <;> intro h0 <;> first | rfl | (exfalso; omega))
 ·
  rw [stepR_9 hk] at h; rw [hk]
  (repeat' (split at h)) <;> first | (cases h; done) | (injection h with h; obtain ⟨rfl, rfl⟩ := Prod.mk.inj h; constructor <;> intro h0 <;> first | rfl | (exfalso; omega))
 ·
  rw [stepR_10 hk] at h; rw [hk]
  (repeat' (split at h)) <;> first | (cases h; done) | (injection h with h; obtain ⟨rfl, rfl⟩ := Prod.mk.inj h; constructor <;> intro h0 <;> first | rfl | (exfalso; omega))
 ·
  rw [stepR_11 hk] at h; rw [hk]
  (repeat' (split at h)) <;> first | (cases h; done) | (injection h with h; obtain ⟨rfl, rfl⟩ := Prod.mk.inj h; constructor <;> intro h0 <;> first | rfl | (exfalso; omega))
 ·
  rw [stepR_12 hk] at h; rw [hk]
  (repeat' (split at h)) <;> first | (cases h; done) | (injection h with h; obtain ⟨rfl, rfl⟩ := Prod.mk.inj h; constructor <;> intro h0 <;> first | rfl | (exfalso; omega))

/-- It says that it is done. -/
theorem step_twice {e : Ept} {c : Chg} {x : Ept} {b : Chg} (he : EptOk e) (hc : okCh c) (h : stepR e c = .ok (x, b)) : stepR x c = .error 41 := by
 rcases kinds12 hc.1 with hk | hk | hk | hk | hk | hk | hk | hk | hk | hk | hk | hk
 ·
  rw [stepR_1 hk] at h
  split at h
  · cases h
  next hr =>
  split at h
  · cases h
  next hn =>
  have hr := Classical.not_not.1 hr
  injection h with h; obtain ⟨rfl, rfl⟩ := Prod.mk.inj h
  obtain ⟨i, hi⟩ := Int.eq_ofNat_of_zero_le hr.1
  have hin : (e.suites.take c.at_.toNat ++ [c.number] ++ e.suites.drop c.at_.toNat)[c.at_.toNat]? = some c.number := ins_at (by omega)
  have hl : (e.suites.take c.at_.toNat ++ [c.number] ++ e.suites.drop c.at_.toNat).length = e.suites.length + 1 := ins_len (by omega)
  rw [stepR_1 hk]
  rw [if_neg (by show ¬ ¬ (0 ≤ c.at_ ∧ c.at_ ≤ ((e.suites.take c.at_.toNat ++ [c.number] ++ e.suites.drop c.at_.toNat).length : Nat)); omega)]; exact if_pos (List.any_eq_true.2 ⟨_, List.mem_of_getElem? hin, by simp⟩)
 ·
  rw [stepR_2 hk] at h
  split at h
  · cases h
  next hn =>
  injection h with h; obtain ⟨rfl, rfl⟩ := Prod.mk.inj h
  have hn' : ¬ idx (fun y => c.number == y) e.suites < 0 := hn
  obtain ⟨y, hy, hp, hlt⟩ := idx_hit (p := fun y => c.number == y) (l := e.suites) (by omega)
  have hyc : c.number = y := by simpa using hp
  have hany : ((e.suites.eraseIdx (sIdx e c).toNat).any fun y => c.number == y) = false := any_erase (fun j z hj hz => by
   have hz : c.number = z := by simpa using hz
   have hy' : e.suites[(sIdx e c).toNat]? = some z := by rw [← hz, hyc]; exact hy
   exact suites_one he.suites hj hy')
  rw [stepR_2 hk]
  exact if_pos (idx_none' hany)
 ·
  rw [stepR_3 hk] at h
  split at h
  · cases h
  next hn =>
  injection h with h; obtain ⟨rfl, rfl⟩ := Prod.mk.inj h
  rw [stepR_3 hk]
  exact if_pos rfl
 ·
  rw [stepR_4 hk] at h
  split at h
  · cases h
  next hn =>
  injection h with h; obtain ⟨rfl, rfl⟩ := Prod.mk.inj h
  rw [stepR_4 hk]
  exact if_pos rfl
 ·
  rw [stepR_5 hk] at h
  split at h
  · cases h
  next hr =>
  split at h
  · cases h
  next hn =>
  have hr := Classical.not_not.1 hr
  injection h with h; obtain ⟨rfl, rfl⟩ := Prod.mk.inj h
  obtain ⟨i, hi⟩ := Int.eq_ofNat_of_zero_le hr.1
  have hn' : ¬ 0 ≤ keyIdx c.idn.keyId e.ids := hn
  have hany : (e.ids.any fun x => x.keyId == c.idn.keyId) = false := idx_lt0 (show keyIdx c.idn.keyId e.ids < 0 by omega)
  have hx : keyIdx c.idn.keyId (e.ids.take c.at_.toNat ++ [c.idn] ++ e.ids.drop c.at_.toNat) = ((c.at_.toNat : Nat) : Int) := idx_ins (by omega) (by simp) hany
  have hl : (e.ids.take c.at_.toNat ++ [c.idn] ++ e.ids.drop c.at_.toNat).length = e.ids.length + 1 := ins_len (by omega)
  rw [stepR_5 hk]
  rw [if_neg (by show ¬ ¬ (0 ≤ c.at_ ∧ c.at_ ≤ ((e.ids.take c.at_.toNat ++ [c.idn] ++ e.ids.drop c.at_.toNat).length : Nat)); omega)]; exact if_pos (by show 0 ≤ keyIdx c.idn.keyId (e.ids.take c.at_.toNat ++ [c.idn] ++ e.ids.drop c.at_.toNat); omega)
 ·
  rw [stepR_6 hk] at h
  split at h
  · cases h
  next x0 hx0 =>
  split at h
  · cases h
  next hn =>
  split at h
  · cases h
  next ht =>
  injection h with h; obtain ⟨rfl, rfl⟩ := Prod.mk.inj h
  have hany : ((e.ids.eraseIdx (keyIdx c.number e.ids).toNat).any fun x => x.keyId == c.number) = false := by
   refine any_erase (fun j z hj hz => ?_)
   have h1 := idx_first (p := fun x : Idn => x.keyId == c.number) (l := e.ids) (by unfold keyIdx at hn; omega) hj hz
   have h1 : (keyIdx c.number e.ids).toNat ≤ j := h1
   rcases Nat.lt_or_eq_of_le h1 with h2 | h2
   ·
    exfalso; apply ht; rw [List.any_eq_true]
    refine ⟨z, List.mem_of_getElem? (i := j - (keyIdx c.number e.ids + 1).toNat) ?_, hz⟩
    rw [List.getElem?_drop, show (keyIdx c.number e.ids + 1).toNat + (j - (keyIdx c.number e.ids + 1).toNat) = j by omega]; exact hj
   · exact h2.symm
  have hlt : keyIdx c.number (e.ids.eraseIdx (keyIdx c.number e.ids).toNat) < 0 := idx_none' hany
  rw [stepR_6 hk]
  split
  · rfl
  · exact if_pos hlt
 ·
  rw [stepR_7 hk] at h
  split at h
  · cases h
  next hn =>
  injection h with h; obtain ⟨rfl, rfl⟩ := Prod.mk.inj h
  rw [stepR_7 hk]
  exact if_pos (posI_ins (ascI_of he.anc)).2
 ·
  rw [stepR_8 hk] at h
  split at h
  next hn =>
   injection h with h; obtain ⟨rfl, rfl⟩ := Prod.mk.inj h
   rw [stepR_8 hk]
   exact if_neg (show ¬ hasX (e.anchors.eraseIdx (posI e.anchors c.number)) c.number = true by rw [(posI_del (ascI_of he.anc) hn).2]; decide)
  · cases h
 ·
  rw [stepR_9 hk] at h
  split at h
  · cases h
  next hn =>
  injection h with h; obtain ⟨rfl, rfl⟩ := Prod.mk.inj h
  rw [stepR_9 hk]
  exact if_pos (posI_ins (ascI_of he.hash)).2
 ·
  rw [stepR_10 hk] at h
  split at h
  next hn =>
   injection h with h; obtain ⟨rfl, rfl⟩ := Prod.mk.inj h
   rw [stepR_10 hk]
   exact if_neg (show ¬ hasX (e.hashes.eraseIdx (posI e.hashes c.number)) c.number = true by rw [(posI_del (ascI_of he.hash) hn).2]; decide)
  · cases h
 ·
  rw [stepR_11 hk] at h
  split at h
  · cases h
  next hr =>
  split at h
  · cases h
  next hn =>
  have hr := Classical.not_not.1 hr
  injection h with h; obtain ⟨rfl, rfl⟩ := Prod.mk.inj h
  have hb := bit_back hr hn
  rw [stepR_11 hk]
  rw [if_neg (fun h => h hr)]; exact if_pos hb.2.2.2
 ·
  rw [stepR_12 hk] at h
  split at h
  · cases h
  next hr =>
  split at h
  · cases h
  next hn =>
  have hr := Classical.not_not.1 hr
  injection h with h; obtain ⟨rfl, rfl⟩ := Prod.mk.inj h
  have hb := bit_back hr hn
  rw [stepR_12 hk]
  rw [if_neg (fun h => h hr)]; exact if_pos hb.2.2.2

theorem done_twice {e : Ept} {c : Chg} {x : Ept} {b : Chg} (h : doneR e c = (x, b, 0)) : doneR x c = (zeroEp, zeroChg, 41) ∧ RestP e x c.kind ∧ x ≠ e ∧ eptB x = true := by
 obtain ⟨h1, h2, h3, h4⟩ := doneR_inv h
 have h5 := step_twice h1 h2 h3
 refine ⟨doneR_err (eptB_iff.2 h4) h2 h5, rest_step h2 h3, ?_, eptB_iff.2 h4⟩
 rintro rfl; rw [h5] at h3; cases h3
theorem idx_snoc {β : Type} {p : β → Bool} {l : List β} {k : Nat} {x : β} (h : l[k]? = some x) : idx p (l.take (k + 1)) = if idx p (l.take k) < 0 then (if p x = true then (k : Int) else -1) else idx p (l.take k) := by
 have hk := lt_of_at h
 rw [List.take_add_one, h]
 have hl : (l.take k).length = k := by rw [List.length_take]; omega
 show idx p (l.take k ++ [x]) = _
 generalize l.take k = a at hl ⊢
 unfold idx
 rw [List.findIdx?_append]
 cases ha : a.findIdx? p with
 | some i => simp; intro h3; omega
 | none => cases hp : p x <;> simp [hp, hl]
theorem cnt_snoc {β : Type} {p : β → Bool} {l : List β} {k : Nat} {x : β} (h : l[k]? = some x) : (((l.take (k + 1)).countP p : Nat) : Int) = ((l.take k).countP p : Nat) + (if p x = true then 1 else 0) := by
 rw [List.take_add_one, h]
 show (((l.take k ++ [x]).countP p : Nat) : Int) = _
 rw [List.countP_append, List.countP_singleton]; split <;> simp_all
theorem idx_cnt {β : Type} {p : β → Bool} {l : List β} : idx p l < 0 ↔ l.countP p = 0 := by
 unfold idx
 cases h : l.findIdx? p with
 | none =>
  rw [List.findIdx?_eq_none_iff] at h
  simp only [show ((none : Option Nat).map fun n => (n : Int)).getD (-1) = -1 from rfl]
  constructor
  · intro _; rw [List.countP_eq_zero]; intro a ha; rw [h a ha]; decide
  · intro _; decide
 | some i =>
  rw [List.findIdx?_eq_some_iff_getElem] at h
  obtain ⟨h1, h2, _⟩ := h
  constructor
  · intro h3; exfalso; revert h3; simp
  · intro h3; rw [List.countP_eq_zero] at h3; exact absurd h2 (h3 _ (List.getElem_mem h1))
theorem cnt_le {β : Type} {p : β → Bool} {l : List β} {k n : Nat} (h : l.length ≤ n) : (l.take k).countP p ≤ n := Nat.le_trans List.countP_le_length (Nat.le_trans (by rw [List.length_take]; omega) h)
theorem bsX {l : List Int} {n x : Int} {k : Nat} (h : ∀ (j : Nat) y, j < k → l[j]? = some y → y < n) (hx : l[k]? = some x) (hlt : x < n) : ∀ (j : Nat) y, j < k + 1 → l[j]? = some y → y < n := by
 intro j y hj hy
 rcases Nat.lt_or_eq_of_le (Nat.le_of_lt_succ hj) with h1 | h1
 · exact h j y h1 hy
 · subst h1; rw [hx] at hy; cases hy; exact hlt
def keyP (id : Int) (x : Idn) : Bool := x.keyId == id
def cntK (id : Int) (l : List Idn) : Int := ((l.countP (keyP id) : Nat) : Int)
theorem keyIdx_eq (id : Int) (l : List Idn) : keyIdx id l = idx (keyP id) l := rfl
theorem cntK_snoc {id : Int} {l : List Idn} {k : Nat} {x : Idn} (h : l[k]? = some x) : cntK id (l.take (k + 1)) = cntK id (l.take k) + (if x.keyId = id then 1 else 0) := by
 unfold cntK; rw [cnt_snoc h]; unfold keyP; simp only [beq_iff_eq]
theorem keyIdx_snoc {id : Int} {l : List Idn} {k : Nat} {x : Idn} (h : l[k]? = some x) : keyIdx id (l.take (k + 1)) = if cntK id (l.take k) = 0 then (if x.keyId = id then (k : Int) else -1) else keyIdx id (l.take k) := by
 rw [keyIdx_eq, keyIdx_eq, idx_snoc h]
 have := idx_cnt (p := keyP id) (l := l.take k)
 unfold cntK
 by_cases h2 : idx (keyP id) (l.take k) < 0
 ·
  have h4 : (((l.take k).countP (keyP id) : Nat) : Int) = 0 := by rw [this.1 h2]; rfl
  rw [if_pos h2, if_pos h4]; unfold keyP; simp only [beq_iff_eq]
 · rw [if_neg h2, if_neg (fun h3 => h2 (this.2 (by omega)))]
theorem keyIdx_cnt0 {id : Int} {l : List Idn} (h : cntK id l = 0) : keyIdx id l = -1 := by
 have h2 := (idx_cnt (p := keyP id) (l := l)).2 (by unfold cntK at h; omega)
 rw [keyIdx_eq]; unfold idx at h2 ⊢
 cases h3 : l.findIdx? (keyP id) with
 | none => rfl
 | some i => rw [h3] at h2; simp at h2; omega
def valR (e : Ept) (k : Int) : Int × Bool := if k = 3 then (e.most, true) else if k = 4 then (e.least, true) else if k = 11 then (bitI e.fall, true) else if k = 12 then (bitI e.own, true) else (0, false)
def lstR (e : Ept) (k : Int) : List Int × Bool × Bool :=
 if k = 1 ∨ k = 2 then (e.suites, decide (k = 1), true) else if k = 7 ∨ k = 8 then (e.anchors, decide (k = 7), true) else if k = 9 ∨ k = 10 then (e.hashes, decide (k = 9), true) else ([], false, false)
theorem noneB_dec (x : Idn) : decide (x = zeroId) = noneB x := by
 rw [Bool.eq_iff_iff, decide_eq_true_eq]; unfold noneB zeroId
 cases x; simp only [Idn.mk.injEq, Bool.and_eq_true, decide_eq_true_eq, beq_iff_eq, and_assoc]
 constructor
 · rintro ⟨h1, h2, h3, h4⟩; exact ⟨h1, h2, h3, by simp [h4]⟩
 · rintro ⟨h1, h2, h3, h4⟩; exact ⟨h1, h2, h3, List.eq_nil_of_length_eq_zero (by omega)⟩

theorem w_R24place {l : List Int} {n : Int}  : Fun prog 78 [ints l, int n] (int (idx (fun y => n == y) l)) := by
 refine fo func78 rfl ⟨rfl, rfl⟩ fun M0 w0 => (Tr.lenm 0 rfl fun hlm_0 => ?_)
 refine a2 ?_
 refine Tr.block (Tr.loopw [(1, _), (7, _), (8, _)] (kk3 rfl) (fun k : Nat => [(9, int ((k : Nat) : Int))]) (fun k : Nat => k ≤ (l).length ∧ (∀ j y, j < k → l[j]? = some y → (n == y) = false)) (fun k : Nat => (l).length - k) 0 (⟨Nat.zero_le _, fun j y hj => absurd hj (by omega)⟩) ⟨ke rfl, trivial⟩ ?_)
 rintro k ⟨hle_k, hinv_k⟩
 refine ac ?_
 refine Tr.seq ?_
 refine Tr.cn rfl ?_ ?_ <;> intro h1 q1
 have hk_k : k < (l).length := lt_of_dec h1
 obtain ⟨x, hx_k⟩ := at_ hk_k
 · repeat' first | (exact int_eq (idx_found (p := fun y => n == y) hx_k (by simp; omega) hinv_k)) | (exact Fin.fam_same (k + 1) ⟨⟨hk_k, step_no (p := fun y => n == y) hx_k (by simp; omega) hinv_k⟩, by omega⟩ ⟨⟨_, rfl, int_succ k⟩, ke rfl, ke rfl, ke rfl, trivial⟩) | refine co rfl (ok_indexAddr rfl underlying22 sz3 (vl rfl) (vl rfl) (by omega) (by exact row_at (by assumption))) ?_ | refine ac ?_ | (refine Tr.cn rfl ?_ ?_ <;> intro h q)
 have he_k : k = (l).length := by have := ge_of_dec h1; omega
 subst he_k
 refine a3 ?_
 · exact int_eq (idx_none (p := fun y => n == y) hinv_k)
theorem w_R24keys {e : Ept} {id : Int} (hl : e.ids.length ≤ 1000000) : Fun prog 79 [agg (rowEp e), int id] (tup [int (cntK id e.ids), int (keyIdx id e.ids)]) := by
 refine fo func79 rfl ⟨rfl, rfl⟩ fun M0 w0 => ?_
 refine a3 ?_
 refine Tr.block (Tr.loopw [(1, _), (11, _), (12, _)] (kk3 rfl) (fun k : Nat => [(13, int ((k : Nat) : Int)), (6, int (cntK id (e.ids.take k))), (7, int (keyIdx id (e.ids.take k)))]) (fun k : Nat => k ≤ (e.ids).length) (fun k : Nat => (e.ids).length - k) 0 (Nat.zero_le _) ⟨ke rfl, ⟨_, rfl, int_eq rfl⟩, ⟨_, rfl, int_eq rfl⟩, trivial⟩ ?_)
 rintro k hle_k
 refine ac ?_
 refine Tr.seq ?_
 refine Tr.cn rfl ?_ ?_ <;> intro h1 q1
 have hk_k : k < (e.ids).length := lt_of_dec h1
 obtain ⟨x, hx_k⟩ := at_ hk_k
 have hc := cntK_snoc (id := id) hx_k
 have hi := keyIdx_snoc (id := id) hx_k
 have hcl : 0 ≤ cntK id (e.ids.take k) ∧ cntK id (e.ids.take k) ≤ 1000000 := ⟨by unfold cntK; omega, by have := cnt_le (p := keyP id) (k := k) hl; unfold cntK; omega⟩
 have h0 := keyIdx_cnt0 (id := id) (l := e.ids.take k)
 refine ac ?_
 refine ao ?_
 refine tp rfl (ok_indexAddr rfl underlying30 sz27 (vl rfl) (vl rfl) (by omega) (by exact row_at (by assumption))) ?_
 refine tp rfl (ok_loadA rfl agg27 sz27 (vl rfl) rfl rfl) ?_
 refine Tl rfl rfl rfl rfl z27 zo27 (fun b1 => ?_)
 refine tm rfl ?_
 refine sf 0 9 ⟨rfl, rfl, rfl⟩ rfl rfl rfl rfl ?_
 refine ao ?_
 · repeat' first | exact Fin.fam_same (k + 1) ⟨hk_k, by omega⟩ ⟨⟨_, rfl, int_succ k⟩, ⟨_, rfl, int_eq (by simp_all)⟩, ⟨_, rfl, int_eq (by simp_all)⟩, ke rfl, ke rfl, ke rfl, trivial⟩ | refine ac ?_ | (refine Tr.cn rfl ?_ ?_ <;> intro h q)
 have he_k : k = (e.ids).length := by have := ge_of_dec h1; omega
 subst he_k
 rw [List.take_length]
 refine a2 ?_
 refine Tr.ret (Fin.ret2 rfl (OutW.bse _ _) rfl ?_ rfl ?_)
 · exact Lr
 · exact Lr
theorem w_R24bit {b : Bool}  : Fun prog 128 [bool b] (int (bitI b)) := by
 refine fo func128 rfl ⟨rfl, rfl⟩ fun M0 w0 => ?_
 · repeat' first | exact int_eq (by simp_all [bitI]) | refine ac ?_ | (refine Tr.cn rfl ?_ ?_ <;> intro h q)
theorem w_R24value {e : Ept} {k : Int}  : Fun prog 81 [agg (rowEp e), int k] (tup [int (valR e k).1, bool (valR e k).2]) := by
 refine fo func81 rfl ⟨rfl, rfl⟩ fun M0 w0 => ?_
 refine a2 ?_
 refine an ?_ ?_ <;> intro h1 q1
 refine ac ?_
 refine Tr.ret (Fin.block_ret (Fin.then_ret (Fin.ret2 rfl (OutW.bse _ _) rfl ?_ rfl ?_)))
 · exact int_eq (by simp_all [valR])
 · exact bool_eq (by simp_all [valR])
 refine an ?_ ?_ <;> intro h2 q2
 refine ac ?_
 refine Tr.ret (Fin.block_ret (Fin.then_ret (Fin.ret2 rfl (OutW.bse _ _) rfl ?_ rfl ?_)))
 · exact int_eq (by simp_all [valR])
 · exact bool_eq (by simp_all [valR])
 refine an ?_ ?_ <;> intro h3 q3
 refine ac ?_
 refine co rfl (kc1 (w_R24bit) rfl rfl) ?_
 refine ac ?_
 refine wk2 4 5 rfl (Tr.ret (Fin.block_ret (Fin.then_ret (Fin.ret2 rfl (OutW.bse _ _) rfl ?_ rfl ?_))))
 · exact int_eq (by simp_all [valR])
 · exact bool_eq (by simp_all [valR])
 refine an ?_ ?_ <;> intro h4 q4
 refine ac ?_
 refine co rfl (kc1 (w_R24bit) rfl rfl) ?_
 refine ac ?_
 refine wk2 4 5 rfl (Tr.ret (Fin.block_ret (Fin.then_ret (Fin.ret2 rfl (OutW.bse _ _) rfl ?_ rfl ?_))))
 · exact int_eq (by simp_all [valR])
 · exact bool_eq (by simp_all [valR])
 refine a2 ?_
 refine wk2 4 5 rfl (Tr.ret (Fin.ret2 rfl (OutW.bse _ _) rfl ?_ rfl ?_))
 · exact int_eq (by simp_all [valR])
 · exact bool_eq (by simp_all [valR])
theorem w_R24form {c : Chg} (hcs : c.idn.small) : Fun prog 119 [agg (rowChg c)] (bool (decide (okCh c))) := by
 refine fo func119 rfl ⟨rfl, rfl⟩ fun M0 w0 => ?_
 refine ac ?_
 refine ac ?_
 refine co rfl (ok_call rfl (w_R24SameI (a := c.idn) (b := zeroId) hcs) ⟨ke rfl, ⟨_, rfl, agg_le ⟨Lr, Lr, Lr, nil_slice 15, trivial⟩⟩, trivial⟩) ?_
 refine ac ?_
 refine ac ?_
 refine ac ?_
 refine Tr.cn rfl ?_ ?_ <;> intro h1 q1
 refine ac ?_
 refine ac ?_
 · refine bool_eq ?_; (try simp only [noneB_dec] at *); rw [Bool.eq_iff_iff, decide_eq_true_eq]; unfold okCh leanB; simp_all
 refine ac ?_
 refine Tr.cn rfl ?_ ?_ <;> intro h2 q2
 refine ac ?_
 refine wk1 2 rfl ?_
 refine ac ?_
 · refine bool_eq ?_; (try simp only [noneB_dec] at *); rw [Bool.eq_iff_iff, decide_eq_true_eq]; unfold okCh leanB; simp_all
 refine ac ?_
 refine ac ?_
 refine Ch.cs 21 rfl ?_ ?_ <;> intro h3 q3
 refine ac ?_
 refine Ch.cs 26 rfl ?_ ?_ <;> intro h4 q4
 refine ac ?_
 refine Ch.cs 29 rfl ?_ ?_ <;> intro h5 q5
 refine ac ?_
 refine wk1 2 rfl ?_
 refine ac ?_
 · refine bool_eq ?_; (try simp only [noneB_dec] at *); rw [Bool.eq_iff_iff, decide_eq_true_eq]; unfold okCh leanB; simp_all
 refine ac ?_
 refine wk1 2 rfl ?_
 refine ac ?_
 · refine bool_eq ?_; (try simp only [noneB_dec] at *); rw [Bool.eq_iff_iff, decide_eq_true_eq]; unfold okCh leanB; simp_all
 refine ac ?_
 refine wk1 2 rfl ?_
 refine ac ?_
 · refine bool_eq ?_; (try simp only [noneB_dec] at *); rw [Bool.eq_iff_iff, decide_eq_true_eq]; unfold okCh leanB; simp_all; omega
 refine ac ?_
 refine wk1 2 rfl ?_
 refine ac ?_
 · refine bool_eq ?_; (try simp only [noneB_dec] at *); rw [Bool.eq_iff_iff, decide_eq_true_eq]; unfold okCh leanB; simp_all; omega
theorem w_R24listed {e : Ept} {k : Int}  : Fun prog 120 [agg (rowEp e), int k] (tup [ints (lstR e k).1, bool (lstR e k).2.1, bool (lstR e k).2.2]) := by
 refine fo func120 rfl ⟨rfl, rfl⟩ fun M0 w0 => ?_
 refine ac ?_
 refine ac ?_
 refine ac ?_
 refine Tr.cn rfl ?_ ?_ <;> intro h1 q1
 refine ac ?_
 refine Tr.cond rfl (fun _ => ?_) (fun h => nomatch h1.symm.trans h)
 refine ac ?_
 refine wk3 4 5 6 rfl (Tr.ret (Fin.block_ret (Fin.then_ret (Fin.ret3 rfl (OutW.bse _ _) rfl ?_ rfl ?_ rfl ?_))))
 · exact Pr.le_of_eq (by simp_all [lstR])
 · exact bool_eq (by simp_all [lstR])
 · exact bool_eq (by simp_all [lstR])
 refine ac ?_
 refine Tr.cn rfl ?_ ?_ <;> intro h2 q2
 refine ac ?_
 refine wk3 4 5 6 rfl (Tr.ret (Fin.block_ret (Fin.then_ret (Fin.ret3 rfl (OutW.bse _ _) rfl ?_ rfl ?_ rfl ?_))))
 · exact Pr.le_of_eq (by simp_all [lstR])
 · exact bool_eq (by simp_all [lstR])
 · exact bool_eq (by simp_all [lstR])
 refine ac ?_
 refine Tr.cn rfl ?_ ?_ <;> intro h3 q3
 refine ac ?_
 refine Tr.cond rfl (fun _ => ?_) (fun h => nomatch h3.symm.trans h)
 refine ac ?_
 refine wk3 4 5 6 rfl (Tr.ret (Fin.block_ret (Fin.then_ret (Fin.ret3 rfl (OutW.bse _ _) rfl ?_ rfl ?_ rfl ?_))))
 · exact Pr.le_of_eq (by simp_all [lstR])
 · exact bool_eq (by simp_all [lstR])
 · exact bool_eq (by simp_all [lstR])
 refine ac ?_
 refine Tr.cn rfl ?_ ?_ <;> intro h4 q4
 refine ac ?_
 refine wk3 4 5 6 rfl (Tr.ret (Fin.block_ret (Fin.then_ret (Fin.ret3 rfl (OutW.bse _ _) rfl ?_ rfl ?_ rfl ?_))))
 · exact Pr.le_of_eq (by simp_all [lstR])
 · exact bool_eq (by simp_all [lstR])
 · exact bool_eq (by simp_all [lstR])
 refine ac ?_
 refine wk4 1 2 7 22 rfl ?_
 refine Tr.cn rfl ?_ ?_ <;> intro h5 q5
 refine ac ?_
 refine Tr.cond rfl (fun _ => ?_) (fun h => nomatch h5.symm.trans h)
 refine ac ?_
 refine Tr.ret (Fin.block_ret (Fin.then_ret (Fin.ret3 rfl (OutW.bse _ _) rfl ?_ rfl ?_ rfl ?_)))
 · exact Pr.le_of_eq (by simp_all [lstR])
 · exact bool_eq (by simp_all [lstR])
 · exact bool_eq (by simp_all [lstR])
 refine ac ?_
 refine Tr.cn rfl ?_ ?_ <;> intro h6 q6
 refine ac ?_
 refine Tr.ret (Fin.block_ret (Fin.then_ret (Fin.ret3 rfl (OutW.bse _ _) rfl ?_ rfl ?_ rfl ?_)))
 · exact Pr.le_of_eq (by simp_all [lstR])
 · exact bool_eq (by simp_all [lstR])
 · exact bool_eq (by simp_all [lstR])
 refine ac ?_
 refine ac ?_
 refine Tr.ret (Fin.ret3 rfl (OutW.bse _ _) rfl ?_ rfl ?_ rfl ?_)
 · exact Pr.le_trans (nil_slice 1) (Pr.le_of_eq (by rw [show (lstR e k).1 = [] by simp_all [lstR]]; rfl))
 · exact bool_eq (by simp_all [lstR])
 · exact bool_eq (by simp_all [lstR])
theorem w_R24with {l : List Int} {i : Nat} {n : Int} (hi : i ≤ l.length) (hl : l.length ≤ 1000000) : Fun prog 121 [ints l, int ((i : Nat) : Int), int n] (ints (l.take i ++ [n] ++ l.drop i)) := by
 refine fo func121 rfl ⟨rfl, rfl⟩ fun M0 w0 => ?_
 have hml : (l.map fun n : Int => [int n]).length = l.length := List.length_map _
 refine ac ?_
 refine ap ?_
 refine tp rfl (ok_sliceTo rfl underlying22 sz3 (vl rfl) (vl rfl) (by omega) (by omega)) (TO.pad ?_)
 refine TO.efs 0 rfl rfl (by decide) (ef_append rfl rfl (by decide) rfl underlying22 sz3 by3 z3 rfl (by decide) ⟨_, rfl, nil_slice _⟩ (vl rfl) (by simp only [List.length_map, List.length_append, List.length_cons, List.length_nil, List.length_take, List.length_drop]; unfold maxLen; omega) (by simp only [List.length_map, List.length_append, List.length_cons, List.length_nil, List.length_take, List.length_drop]; omega) (appR_full (by exact List.Mem.head _) ⟨_, rfl, nil_full 1⟩)) (fun v1 => ?_)
 refine ap ?_
 refine ap ?_
 refine TO.efs 0 rfl rfl (by decide) (eApp rfl rfl rfl rfl underlying22 sz3 by3 z3 (Kb rfl) (Kf rfl) (appR_is (by exact List.Mem.head _) (Ka rfl))) (fun v2 => ?_)
 refine ap ?_
 refine ap ?_
 refine tp rfl (ok_sliceFrom rfl underlying22 sz3 (vl rfl) (vl rfl) (by omega) (by omega)) ?_
 refine TO.efs 0 rfl rfl (by decide) (eApp rfl rfl rfl rfl underlying22 sz3 by3 z3 (Kb rfl) (vl rfl) (appR_is (by exact List.Mem.head _) (Ka rfl))) (fun v3 => ?_)
 refine ap ?_
 refine wk1 6 rfl ?_
 refine ac ?_
 · exact Pr.le_trans (andIs_le _ _) (Pr.le_of_eq (by show _ = slice 1 ((l.take i ++ [n] ++ l.drop i).map fun n => [int n]); simp [List.map_take, List.map_drop]))
theorem w_R24without {l : List Int} {i : Nat} (hi : i < l.length) (hl : l.length ≤ 1000000) : Fun prog 122 [ints l, int ((i : Nat) : Int)] (ints (l.eraseIdx i)) := by
 refine fo func122 rfl ⟨rfl, rfl⟩ fun M0 w0 => ?_
 have hml : (l.map fun n : Int => [int n]).length = l.length := List.length_map _
 refine ac ?_
 refine ap ?_
 refine tp rfl (ok_sliceTo rfl underlying22 sz3 (vl rfl) (vl rfl) (by omega) (by omega)) (TO.pad ?_)
 refine TO.efs 0 rfl rfl (by decide) (ef_append rfl rfl (by decide) rfl underlying22 sz3 by3 z3 rfl (by decide) ⟨_, rfl, nil_slice _⟩ (vl rfl) (by simp only [List.length_map, List.length_append, List.length_cons, List.length_nil, List.length_take, List.length_drop]; unfold maxLen; omega) (by simp only [List.length_map, List.length_append, List.length_cons, List.length_nil, List.length_take, List.length_drop]; omega) (appR_full (by exact List.Mem.head _) ⟨_, rfl, nil_full 1⟩)) (fun v1 => ?_)
 refine ap ?_
 refine ap ?_
 refine tp rfl (ok_sliceFrom rfl underlying22 sz3 (vl rfl) (vl rfl) (by omega) (by omega)) ?_
 refine TO.efs 0 rfl rfl (by decide) (eApp rfl rfl rfl rfl underlying22 sz3 by3 z3 (Kb rfl) (vl rfl) (appR_is (by exact List.Mem.head _) (Ka rfl))) (fun v2 => ?_)
 refine ap ?_
 refine ac ?_
 · exact Pr.le_trans (andIs_le _ _) (Pr.le_of_eq (by rw [List.eraseIdx_eq_take_drop_succ]; show _ = slice 1 ((l.take i ++ l.drop (i + 1)).map fun n => [int n]); simp [List.map_take, List.map_drop, show (((i : Nat) : Int) + 1).toNat = i + 1 by omega]))
theorem w_R24sorted {l : List Int} {n : Int} (hl : l.length ≤ 1000000) : Fun prog 123 [ints l, int n] (ints (insX l n)) := by
 refine fo func123 rfl ⟨rfl, rfl⟩ fun M0 w0 => (Tr.lenm 0 rfl fun hlm_0 => ?_)
 refine a2 ?_
 refine Tr.seq (Tr.block (Tr.loopw [(0, _), (1, _)] (kk2 rfl) (fun k : Nat => [(5, int ((k : Nat) : Int))]) (fun k : Nat => k ≤ l.length ∧ (∀ j y, j < k → l[j]? = some y → y < n)) (fun k : Nat => l.length - k) 0 (⟨Nat.zero_le _, fun j y hj => absurd hj (by omega)⟩) ⟨ke rfl, trivial⟩ ?_))
 rintro k ⟨hle_k, hinv⟩
 refine ag ?_ ?_ <;> intro h1 q1
 obtain ⟨x, hx⟩ := at_ (l := l) (k := k) (by omega)
 refine ac ?_
 refine cy h1 rfl (ok_indexAddr rfl underlying22 sz3 (vl rfl) (vl rfl) (by omega) (row_at hx)) ?_
 refine ac ?_
 refine wk4 0 1 5 17 rfl ?_
 refine Tr.cn rfl ?_ ?_ <;> intro h2 q2
 have hq := h2
 refine a2 ?_
 exact Fin.fam_same (k + 1) ⟨⟨by omega, bsX hinv hx (by simpa using hq)⟩, by omega⟩ ⟨⟨_, rfl, int_succ k⟩, ke rfl, ke rfl, trivial⟩
 have hp : posI l n = k := posI_eq hle_k hinv (fun y hy => by have h_ := h2; rw [hx] at hy; cases hy; simpa using h_)
 refine a2 ?_
 refine co rfl (ok_call rfl (w_R24with (l := l) (i := posI l n) (posI_le _ _) hl) ⟨ke rfl, ⟨_, rfl, int_eq (by omega)⟩, ke rfl, trivial⟩) ?_
 refine a2 ?_
 · exact Lr
 have hp : posI l n = k := posI_eq hle_k hinv (fun y hy => by have := lt_of_at hy; have := q1; omega)
 refine ac ?_
 refine wk4 0 1 5 17 rfl ?_
 refine a2 ?_
 refine co rfl (ok_call rfl (w_R24with (l := l) (i := posI l n) (posI_le _ _) hl) ⟨ke rfl, ⟨_, rfl, int_eq (by omega)⟩, ke rfl, trivial⟩) ?_
 refine a2 ?_
 · exact Lr
def alw (e : Ept) (c : Chg) : Int :=
 if eptB e = false then 19 else if ¬ okCh c then 40
 else if c.kind = 1 ∧ (c.at_ < 0 ∨ (e.suites.length : Int) < c.at_) then 2
 else if c.kind = 5 ∧ (c.at_ < 0 ∨ (e.ids.length : Int) < c.at_) then 2
 else if (c.kind = 11 ∨ c.kind = 12) ∧ (c.number ≠ 0 ∧ c.number ≠ 1) then 2
 else if (lstR e c.kind).2.2 = true ∧ decide (0 ≤ idx (fun y => c.number == y) (lstR e c.kind).1) = (lstR e c.kind).2.1 then 41
 else if (valR e c.kind).2 = true ∧ (valR e c.kind).1 = c.number then 41
 else if c.kind = 5 ∧ 0 < cntK c.idn.keyId e.ids then 41
 else if c.kind = 6 ∧ cntK c.number e.ids = 0 then 41
 else if c.kind = 6 ∧ 1 < cntK c.number e.ids then 5 else 0
theorem idx_has {l : List Int} (hs : AscI l) {n : Int} : idx (fun y => n == y) l = if hasX l n = true then ((posI l n : Nat) : Int) else -1 := by
 by_cases h : hasX l n = true
 ·
  rw [if_pos h]
  obtain ⟨y, hy⟩ := at_ (hasX_lt h)
  have hyn : y = n := by have h2 := hasX_at rfl hy; rw [h] at h2; simpa using h2.symm
  exact (idx_found (p := fun y => n == y) hy (by simp [hyn]) (fun j z hj hz => by have := posI_lt hj hz; simp; omega)).symm
 ·
  rw [if_neg h]
  refine (idx_none (p := fun y => n == y) (fun j z hj hz => ?_)).symm
  simp only [beq_eq_false_iff_ne, ne_eq]
  intro hn; subst hn
  rcases Nat.lt_trichotomy j (posI l n) with h1 | h1 | h1
  · have := posI_lt h1 hz; omega
  · subst h1; exact h (by rw [hasX_at rfl hz]; simp)
  ·
   obtain ⟨y, hy⟩ := at_ (l := l) (k := posI l n) (by have := lt_of_at hz; omega)
   have h2 := posI_ge hy
   have h3 := ascI_lt hs h1 hy hz
   omega
theorem dup_cnt {l : List Idn} {n : Int} {x : Idn} (h0 : ¬ keyIdx n l < 0) (hx : l[(keyIdx n l).toNat]? = some x) : (1 < cntK n l) ↔ ((l.drop (keyIdx n l + 1).toNat).any fun x => x.keyId == n) = true := by
 obtain ⟨y, hy, hp, hlt⟩ := idx_hit (p := keyP n) (l := l) (by rw [← keyIdx_eq]; omega)
 rw [← keyIdx_eq] at hy hlt
 have hsplit : l = l.take (keyIdx n l).toNat ++ y :: l.drop ((keyIdx n l).toNat + 1) := by
  rw [List.getElem?_eq_getElem hlt] at hy; cases hy
  rw [List.getElem_cons_drop]; exact (List.take_append_drop _ _).symm
 have h1 : (l.take (keyIdx n l).toNat).countP (keyP n) = 0 := by
  refine idx_cnt.1 (Int.not_le.1 fun h2 => ?_)
  obtain ⟨z, hz, hzp, hzl⟩ := idx_hit h2
  have e1 : keyIdx n l = idx (keyP n) (l.take (keyIdx n l).toNat) := by
   obtain ⟨i, hi⟩ : ∃ i : Nat, idx (keyP n) (l.take (keyIdx n l).toNat) = (i : Int) := ⟨_, (Int.toNat_of_nonneg h2).symm⟩
   have h3 : ((l.take (keyIdx n l).toNat).findIdx? (keyP n)) = some i := by
    unfold idx at hi; cases h4 : (l.take (keyIdx n l).toNat).findIdx? (keyP n) with
    | none => rw [h4] at hi; simp at hi
    | some k => rw [h4] at hi; rw [show k = i by simp at hi; omega]
   have h5 : l.findIdx? (keyP n) = some i := by
    rw [← List.take_append_drop (keyIdx n l).toNat l, List.findIdx?_append, h3]; rfl
   have e2 : idx (keyP n) l = (i : Int) := by unfold idx; rw [h5]
   exact e2.trans hi.symm
  rw [← e1] at hzl; rw [List.length_take] at hzl; omega
 have h2 : l.countP (keyP n) = 1 + (l.drop ((keyIdx n l).toNat + 1)).countP (keyP n) := by
  conv => lhs; rw [hsplit]
  rw [List.countP_append, h1, List.countP_cons, hp]; simp; omega
 unfold cntK; rw [h2, show (keyIdx n l + 1).toNat = (keyIdx n l).toNat + 1 by omega]
 show _ ↔ (List.any _ (keyP n)) = true
 rw [List.any_eq_true, ← List.countP_pos_iff]; omega
theorem dec_any {l : List Int} {n : Int} : decide (0 ≤ idx (fun y => n == y) l) = l.any fun y => n == y := idx_any _ _
theorem dec_has {l : List Int} (hs : AscI l) {n : Int} : decide (0 ≤ idx (fun y => n == y) l) = hasX l n := by
 rw [idx_has hs]; cases hasX l n <;> simp
theorem alw_step {e : Ept} {c : Chg} (hce : eptB e = true) (hc : okCh c) : alw e c = match stepR e c with | .error f => f | .ok _ => 0 := by
 have ok := eptB_iff.1 hce
 have ha := ascI_of ok.anc; have hh := ascI_of ok.hash
 have hk := hc.1
 unfold alw
 rw [if_neg (by rw [hce]; decide), if_neg (not_not_intro hc)]
 have h0 : c.kind = 1 ∨ c.kind = 2 ∨ c.kind = 3 ∨ c.kind = 4 ∨ c.kind = 5 ∨ c.kind = 6 ∨ c.kind = 7 ∨ c.kind = 8 ∨ c.kind = 9 ∨ c.kind = 10 ∨ c.kind = 11 ∨ c.kind = 12 := by omega
 rcases h0 with h | h | h | h | h | h | h | h | h | h | h | h
 ·
  rw [stepR_1 h]; unfold lstR valR; simp only [h]
  by_cases h1 : c.at_ < 0 ∨ (e.suites.length : Int) < c.at_
  ·
   have h2 : ¬ (0 ≤ c.at_ ∧ c.at_ ≤ (e.suites.length : Int)) := by omega
   simp [h1, h2]
  ·
   have h2 : 0 ≤ c.at_ ∧ c.at_ ≤ (e.suites.length : Int) := by omega
   have h3 := dec_any (l := e.suites) (n := c.number)
   have h4 : (0 ≤ idx (fun y => c.number == y) e.suites) ↔ (e.suites.any fun y => c.number == y) = true := by rw [← h3, decide_eq_true_eq]
   by_cases h5 : (e.suites.any fun y => c.number == y) = true
   · have h6 := h4.2 h5; simp only [h5]; simp [h1, h2, h6]
   ·
    have h6 : ¬ 0 ≤ idx (fun y => c.number == y) e.suites := fun h => h5 (h4.1 h)
    simp only [h5]; simp [h1, h2, h6]
 ·
  rw [stepR_2 h]; unfold lstR valR sIdx; simp only [h]
  by_cases h1 : idx (fun y => c.number == y) e.suites < 0
  · simp [h1]
  · simp [h1]
 · rw [stepR_3 h]; unfold lstR valR; simp only [h]; by_cases h1 : e.most = c.number <;> simp [h1]
 · rw [stepR_4 h]; unfold lstR valR; simp only [h]; by_cases h1 : e.least = c.number <;> simp [h1]
 ·
  rw [stepR_5 h]; unfold lstR valR; simp only [h]
  have hcnt := idx_cnt (p := keyP c.idn.keyId) (l := e.ids)
  rw [← keyIdx_eq] at hcnt
  by_cases h1 : c.at_ < 0 ∨ (e.ids.length : Int) < c.at_
  ·
   have h2 : ¬ (0 ≤ c.at_ ∧ c.at_ ≤ (e.ids.length : Int)) := by omega
   simp [h1, h2]
  ·
   have h3 : 0 ≤ c.at_ ∧ c.at_ ≤ (e.ids.length : Int) := by omega
   by_cases h2 : 0 ≤ keyIdx c.idn.keyId e.ids
   ·
    have : 0 < cntK c.idn.keyId e.ids := by unfold cntK; omega
    simp [h1, h2, h3, this]
   ·
    have : ¬ 0 < cntK c.idn.keyId e.ids := by unfold cntK; omega
    simp [h1, h2, h3, this]
 ·
  rw [stepR_6 h]; unfold lstR valR; simp only [h]
  have hcnt := idx_cnt (p := keyP c.number) (l := e.ids)
  rw [← keyIdx_eq] at hcnt
  by_cases h2 : keyIdx c.number e.ids < 0
  ·
   have : cntK c.number e.ids = 0 := by unfold cntK; omega
   cases e.ids[(keyIdx c.number e.ids).toNat]? <;> simp [h2, this]
  ·
   have h3 : ¬ cntK c.number e.ids = 0 := by unfold cntK; omega
   obtain ⟨x, hx, _, _⟩ := idx_hit (p := fun x : Idn => x.keyId == c.number) (l := e.ids) (by unfold keyIdx at h2; omega)
   have hx : e.ids[(keyIdx c.number e.ids).toNat]? = some x := hx
   have hd := dup_cnt h2 hx
   rw [hx]; simp only [if_neg h2]
   by_cases h4 : ((e.ids.drop (keyIdx c.number e.ids + 1).toNat).any fun x => x.keyId == c.number) = true
   · have := hd.2 h4; simp only [h4]; simp [h3, this]
   ·
    have : ¬ 1 < cntK c.number e.ids := fun h5 => h4 (hd.1 h5)
    simp only [h4]; simp [h3, this]
 ·
  rw [stepR_7 h]; unfold lstR valR; simp only [h]
  have h1 : (0 ≤ idx (fun y => c.number == y) e.anchors) ↔ hasX e.anchors c.number = true := by rw [← dec_has ha, decide_eq_true_eq]
  by_cases h2 : hasX e.anchors c.number = true
  · have h3 := h1.2 h2; simp [h2, h3]
  ·
   have h3 : ¬ 0 ≤ idx (fun y => c.number == y) e.anchors := fun h => h2 (h1.1 h)
   simp [h2, h3]
 ·
  rw [stepR_8 h]; unfold lstR valR; simp only [h]
  have h1 : (0 ≤ idx (fun y => c.number == y) e.anchors) ↔ hasX e.anchors c.number = true := by rw [← dec_has ha, decide_eq_true_eq]
  by_cases h2 : hasX e.anchors c.number = true
  · have h3 := h1.2 h2; simp [h2, h3]
  ·
   have h3 : ¬ 0 ≤ idx (fun y => c.number == y) e.anchors := fun h => h2 (h1.1 h)
   simp [h2, h3]
 ·
  rw [stepR_9 h]; unfold lstR valR; simp only [h]
  have h1 : (0 ≤ idx (fun y => c.number == y) e.hashes) ↔ hasX e.hashes c.number = true := by rw [← dec_has hh, decide_eq_true_eq]
  by_cases h2 : hasX e.hashes c.number = true
  · have h3 := h1.2 h2; simp [h2, h3]
  ·
   have h3 : ¬ 0 ≤ idx (fun y => c.number == y) e.hashes := fun h => h2 (h1.1 h)
   simp [h2, h3]
 ·
  rw [stepR_10 h]; unfold lstR valR; simp only [h]
  have h1 : (0 ≤ idx (fun y => c.number == y) e.hashes) ↔ hasX e.hashes c.number = true := by rw [← dec_has hh, decide_eq_true_eq]
  by_cases h2 : hasX e.hashes c.number = true
  · have h3 := h1.2 h2; simp [h2, h3]
  ·
   have h3 : ¬ 0 ≤ idx (fun y => c.number == y) e.hashes := fun h => h2 (h1.1 h)
   simp [h2, h3]
 ·
  rw [stepR_11 h]; unfold lstR valR; simp only [h]
  by_cases h1 : 0 ≤ c.number ∧ c.number ≤ 1
  ·
   have : ¬ (c.number ≠ 0 ∧ c.number ≠ 1) := by omega
   by_cases h2 : bitI e.fall = c.number <;> simp [this, h1, h2]
  ·
   have : c.number ≠ 0 ∧ c.number ≠ 1 := by omega
   simp [this, h1]
 ·
  rw [stepR_12 h]; unfold lstR valR; simp only [h]
  by_cases h1 : 0 ≤ c.number ∧ c.number ≤ 1
  ·
   have : ¬ (c.number ≠ 0 ∧ c.number ≠ 1) := by omega
   by_cases h2 : bitI e.own = c.number <;> simp [this, h1, h2]
  ·
   have : c.number ≠ 0 ∧ c.number ≠ 1 := by omega
   simp [this, h1]
theorem alw_bad {e : Ept} {c : Chg} (h : alw e c ≠ 0) : doneR e c = (zeroEp, zeroChg, alw e c) := by
 by_cases hce : eptB e = false
 ·
  have : alw e c = 19 := by unfold alw; rw [if_pos hce]
  rw [this]; unfold doneR; rw [if_pos hce]
 ·
  by_cases hc : okCh c
  ·
   have hce : eptB e = true := by simpa using hce
   have hs := alw_step hce hc
   cases h2 : stepR e c with
   | error f => rw [h2] at hs; rw [doneR_err hce hc h2, show alw e c = f from hs]
   | ok r => rw [h2] at hs; exact absurd hs h
  ·
   have : alw e c = 40 := by unfold alw; rw [if_neg hce, if_pos hc]
   rw [this]; unfold doneR; rw [if_neg hce, if_pos hc]
theorem alw_ok {e : Ept} {c : Chg} (h : alw e c = 0) : eptB e = true ∧ okCh c ∧ ∃ e2 b, stepR e c = .ok (e2, b) := by
 by_cases hce : eptB e = false
 ·
  have : alw e c = 19 := by unfold alw; rw [if_pos hce]
  rw [this] at h; cases h
 ·
  by_cases hc : okCh c
  ·
   have hce : eptB e = true := by simpa using hce
   have hs := alw_step hce hc
   cases h2 : stepR e c with
   | error f =>
    rw [h2] at hs; rw [h] at hs
    have h3 : (0 : Int) = f := hs
    have := stepR_ne hc h2; omega
   | ok r => exact ⟨hce, hc, r.1, r.2, rfl⟩
  ·
   have : alw e c = 40 := by unfold alw; rw [if_neg hce, if_pos hc]
   rw [this] at h; cases h
theorem take_snocM {β γ : Type} {f : β → γ} {l : List β} {k : Nat} {x : β} (h : l[k]? = some x) : (l.take k).map f ++ [f x] = (l.take (k + 1)).map f := by rw [List.take_add_one, h, List.map_append]; rfl

theorem w_R24CopyI {x : Idn} (hx : x.small) : Fun prog 80 [agg (rowId x)] (agg (rowId x)) := by
 refine fo func80 rfl ⟨rfl, rfl⟩ fun M0 w0 => ?_
 have hch := hx.chain
 refine Tr.seq (Tr.regT (tp rfl (ok_box rfl (Va rfl)) ?_))
 refine Tl rfl rfl rfl rfl z27 zo27 (fun b1 => ?_)
 refine ap ?_
 refine ap ?_
 refine Tl rfl rfl rfl rfl z27 zo27 (fun b2 => ?_)
 refine ap ?_
 refine ac ?_
 refine wk5 2 3 12 13 14 rfl (Tr.block (Tr.reC 0 [int x.alg, int x.bits, int x.keyId, andIs (.slice none 0 0) (slice 15 ((x.chain.take 0).map rowCr))] rfl ⟨Lr, Lr, Lr, own_nil rfl, trivial⟩ (Tr.addnil 131 15 (Tr.loopV1 [(2, _), (3, _), (12, _), (13, _)] ⟨ke rfl, ke rfl, ke rfl, ke rfl, trivial⟩ (fun k v => [(14, int ((k : Nat) : Int))]) (fun k v => Hp M0 w0 noS ([appRes 131 15 v, cellsRes true b2 27 [int x.alg, int x.bits, int x.keyId, andIs v (slice 15 ((x.chain.take k).map rowCr))], cellsRes true b1 27 (([.int .i64 0, .int .i64 0, .int .i64 0, .slice none 0 0] : List Value).map is)])) (fun k : Nat => k ≤ (x.chain).length) (fun k : Nat => (x.chain).length - k) 0 (.slice none 0 0) (Nat.zero_le _) ⟨ke rfl, trivial⟩ (fun _ _ h => h) ?_))))
 rintro k v hle_k
 refine ac ?_
 refine Tr.seq ?_
 refine Tr.cn rfl ?_ ?_ <;> intro h1 q1
 have hk_k : k < (x.chain).length := lt_of_dec h1
 obtain ⟨c, hx_k⟩ := at_ hk_k
 have hcn := hx.names c (List.mem_of_getElem? hx_k)
 refine ac ?_
 refine Tr.seq (Tr.block (Tr.seq (Tr.regT (tp rfl (ok_indexAddr rfl underlying25 sz131 (vl rfl) (vl rfl) (by omega) (by exact row_at (by assumption))) ?_))))
 refine tp rfl (ok_loadA rfl agg131 sz131 (vl rfl) rfl rfl) ?_
 refine Tl rfl rfl rfl rfl z131 zo131 (fun b3 => ?_)
 refine ap ?_
 refine ap ?_
 refine tp rfl (ok_appN rfl underlying74 sz9 by9 z9 rfl (by decide) (vl rfl) (by simp only [List.length_map]; unfold maxLen; omega) (by simp only [List.length_map]; omega)) ?_
 refine ap ?_
 refine wk6 2 3 5 12 13 14 rfl ?_
 refine ap ?_
 refine TO.efs 1 rfl rfl (by decide) (eApp rfl rfl rfl rfl underlying25 sz131 by131 z131 (Kb rfl) (Kf rfl) (appR_is (by exact List.Mem.head _) (Ka rfl))) (fun v1 => ?_)
 refine ap ?_
 refine Tr.drop 0 ?_
 refine ac ?_
 refine Fin.reC 1 [int x.alg, int x.bits, int x.keyId, andIs v1 (slice 15 ((x.chain.take (k + 1)).map rowCr))] rfl ⟨Lr, Lr, Lr, own_le (take_snocM (f := rowCr) hx_k), trivial⟩ (Fin.famV1 (k + 1) v1 (⟨hk_k, by omega⟩) ⟨⟨_, rfl, int_succ k⟩, ke rfl, ke rfl, ke rfl, ke rfl, trivial⟩ (fun _ _ h => h))
 have he_k : k = (x.chain).length := by have := ge_of_dec h1; omega
 subst he_k
 refine ac ?_
 refine ap ?_
 refine Tr.ret (Fin.retX1 rfl (RVal.cell 2 rfl rfl agg27 sz27 rfl (Lr)) ?_)
 · exact agg_le ⟨Lr, Lr, Lr, Pr.le_trans (andIs_le _ _) (Pr.le_of_eq (by rw [List.take_length])), trivial⟩
theorem w_R24Copy {e : Ept} (hsm : e.small) : Fun prog 96 [agg (rowEp e)] (agg (rowEp e)) := by
 refine fo func96 rfl ⟨rfl, rfl⟩ fun M0 w0 => ?_
 have hs1 := hsm.suites
 have hs2 := hsm.anchors
 have hs3 := hsm.hashes
 have hs4 := hsm.idl
 refine Tr.seq (Tr.regT (tp rfl (ok_box rfl (Va rfl)) ?_))
 refine Tl rfl rfl rfl rfl z32 zo32 (fun b1 => ?_)
 refine ao ?_
 refine ao ?_
 refine Tl rfl rfl rfl rfl z32 zo32 (fun b2 => ?_)
 refine TO.store_all 0 rfl rfl rfl (vl rfl) (Va rfl) rfl sz32 rfl rfl ?_
 refine ao ?_
 refine Tr.seq (Tr.rx ?_)
 refine ax ?_
 refine xo rfl (fun _ => ok_appN rfl underlying22 sz3 by3 z3 rfl (by decide) (vl rfl) (by simp only [List.length_map]; unfold maxLen; omega) (by simp only [List.length_map]; omega)) ?_
 refine ax ?_
 refine xo rfl (fun _ => ok_appN rfl underlying22 sz3 by3 z3 rfl (by decide) (vl rfl) (by simp only [List.length_map]; unfold maxLen; omega) (by simp only [List.length_map]; omega)) ?_
 refine ax ?_
 refine xo rfl (fun _ => ok_appN rfl underlying22 sz3 by3 z3 rfl (by decide) (vl rfl) (by simp only [List.length_map]; unfold maxLen; omega) (by simp only [List.length_map]; omega)) ?_
 refine xo rfl (fun _ => okp_fieldAddr rfl fo32_3 (vl rfl)) (Cx.ef0 0 rfl rfl (ef_store rfl rfl (vl rfl) (Vo rfl) sz22 rfl (by exact Nb rfl) rfl) (xo rfl (fun _ => okp_fieldAddr rfl fo32_6 (vl rfl)) (Cx.ef0 0 rfl rfl (ef_store rfl rfl (vl rfl) (Vo rfl) sz22 rfl (by exact Nb rfl) rfl) (xo rfl (fun _ => okp_fieldAddr rfl fo32_7 (vl rfl)) (Cx.ef0 0 rfl rfl (ef_store rfl rfl (vl rfl) (Vo rfl) sz22 rfl (by exact Nb rfl) rfl) ?_)))))
 refine Cx.nil ⟨by kernel_rfl, ?_⟩
 refine FinX.done al2 (Fin.go (wk3 1 2 3 rfl ?_))
 refine ao ?_
 refine TO.ef0 0 rfl rfl (ef_store rfl rfl (vl rfl) (Vo rfl) sz30 rfl (by exact Nb rfl) rfl) ?_
 refine ao ?_
 refine ac ?_
 refine Tr.block (Tr.reC 0 [str e.name, int e.least, int e.most, ints e.suites, bool e.own, andIs (.slice none 0 0) (slice 4 ((e.ids.take 0).map rowId)), ints e.anchors, ints e.hashes, bool e.fall] rfl ⟨Lr, Lr, Lr, Lr, Lr, own_nil rfl, Lr, Lr, Lr, trivial⟩ (Tr.addnil 27 4 (Tr.loopV1 [(2, _), (3, _), (21, _), (22, _)] ⟨ke rfl, ke rfl, ke rfl, ke rfl, trivial⟩ (fun k v => [(23, int ((k : Nat) : Int))]) (fun k v => Hp M0 w0 noS ([appRes 27 4 v, cellsRes true b2 32 [str e.name, int e.least, int e.most, ints e.suites, bool e.own, andIs v (slice 4 ((e.ids.take k).map rowId)), ints e.anchors, ints e.hashes, bool e.fall], cellsRes true b1 32 (([.string (ByteArray.mk #[]), .int .i64 0, .int .i64 0, .slice none 0 0, .bool false, .slice none 0 0, .slice none 0 0, .slice none 0 0, .bool false] : List Value).map is)])) (fun k : Nat => k ≤ (e.ids).length) (fun k : Nat => (e.ids).length - k) 0 (.slice none 0 0) (Nat.zero_le _) ⟨ke rfl, trivial⟩ (fun _ _ h => h) ?_)))
 rintro k v hle_k
 refine ac ?_
 refine Tr.seq ?_
 refine Tr.cn rfl ?_ ?_ <;> intro h1 q1
 have hk_k : k < (e.ids).length := lt_of_dec h1
 obtain ⟨x, hx_k⟩ := at_ hk_k
 have hxs := hsm.ids x (List.mem_of_getElem? hx_k)
 refine ac ?_
 refine Tr.seq (Tr.block (Tr.seq (Tr.regT (tp rfl (ok_indexAddr rfl underlying30 sz27 (vl rfl) (vl rfl) (by omega) (by exact row_at (by assumption))) ?_))))
 refine tp rfl (ok_loadA rfl agg27 sz27 (vl rfl) rfl rfl) ?_
 refine Tl rfl rfl rfl rfl z27 zo27 (fun b3 => ?_)
 refine sf 0 5 ⟨rfl, rfl, rfl⟩ rfl rfl rfl rfl ?_
 refine ao ?_
 refine Tr.pad (Tr.rx ?_)
 refine ax ?_
 refine xo rfl (fun _ => kc1 (w_R24CopyI hxs) rfl rfl) (xo rfl (fun _ => ok_buildSlice (xs := [.tmp 30]) (rows := [_]) rfl rfl underlying30 sz27 z27 rfl (by decide) ⟨⟨(by exact rfl), (Va rfl)⟩, trivial⟩ (by decide)) ?_)
 refine Cx.ef 1 rfl rfl (by decide) (eApp rfl rfl rfl rfl underlying30 sz27 by27 z27 (Kb rfl) (Kf rfl) (appR_is (by exact List.Mem.head _) (Ka rfl))) ?_
 refine xo rfl (fun _ => okp_fieldAddr rfl fo32_5 (vl rfl)) (Cx.ef0 2 rfl rfl (ef_storeS rfl rfl rfl (vl rfl) rfl sz30 (by exact Nb rfl)) ?_)
 refine Cx.nil ⟨by kernel_rfl, ?_⟩
 refine FinX.open2 1 2 32 rfl rfl (by decide) rfl (fun v1 => ?_)
 refine FinX.done al4 ?_
 refine ac ?_
 refine Tr.drop 0 (wk5 2 3 21 22 23 rfl ?_)
 refine ac ?_
 refine Fin.reC 1 [str e.name, int e.least, int e.most, ints e.suites, bool e.own, andIs v1 (slice 4 ((e.ids.take (k + 1)).map rowId)), ints e.anchors, ints e.hashes, bool e.fall] rfl ⟨Lr, Lr, Lr, Lr, Lr, own_le (take_snocM (f := rowId) hx_k), Lr, Lr, Lr, trivial⟩ (Fin.famV1 (k + 1) v1 (⟨hk_k, by omega⟩) ⟨⟨_, rfl, int_succ k⟩, ke rfl, ke rfl, ke rfl, ke rfl, trivial⟩ (fun _ _ h => h))
 have he_k : k = (e.ids).length := by have := ge_of_dec h1; omega
 subst he_k
 refine ac ?_
 refine ao ?_
 refine TO.store_all 2 rfl rfl rfl (vl rfl) (Va rfl) rfl sz32 rfl rfl ?_
 refine ao ?_
 refine Tr.ret (Fin.retX1 rfl (RVal.cell 2 rfl rfl agg32 sz32 rfl (Lr)) ?_)
 · exact agg_le ⟨Lr, Lr, Lr, Lr, Lr, Pr.le_trans (andIs_le _ _) (Pr.le_of_eq (by rw [List.take_length])), Lr, Lr, Lr, trivial⟩
theorem w_R24allowed {e : Ept} {c : Chg} (hsm : e.small) (hcs : c.idn.small) : Fun prog 75 [agg (rowEp e), agg (rowChg c)] (int (alw e c)) := by
 refine fo func75 rfl ⟨rfl, rfl⟩ fun M0 w0 => ?_
 refine ac ?_
 refine ac ?_
 refine co rfl (kc1 (w_R9Check hsm) rfl rfl) ?_
 refine ac ?_
 refine Tr.cn rfl ?_ ?_ <;> intro h1 q1
 refine ac ?_
 refine ac ?_
 · refine int_eq ?_; unfold alw; repeat (refine (if_pos ?_).symm; simp_all)
 refine ac ?_
 refine ac ?_
 refine co rfl (kc1 (w_R24form (c := c) hcs) rfl rfl) ?_
 refine ac ?_
 refine Tr.cn rfl ?_ ?_ <;> intro h2 q2
 refine ac ?_
 refine ac ?_
 · refine int_eq ?_; unfold alw; repeat (first | (refine (if_pos ?_).symm; omega) | (refine Eq.trans ?_ (if_neg ?_).symm; rotate_left; focus (simp_all; done)))
 refine ac ?_
 refine wk2 2 3 rfl (Tr.cutk [2, 3] [] (¬ (c.kind = 1 ∧ (c.at_ < 0 ∨ (e.suites.length : Int) < c.at_)) ∧ ¬ (c.kind = 5 ∧ (c.at_ < 0 ∨ (e.ids.length : Int) < c.at_)) ∧ ¬ ((c.kind = 11 ∨ c.kind = 12) ∧ (c.number ≠ 0 ∧ c.number ≠ 1))) ?_ (fun hrng => ?_))
 refine ac ?_
 refine ac ?_
 refine Tr.cn rfl ?_ ?_ <;> intro h4 q4
 refine ac ?_
 refine Ch.cs 27 rfl ?_ ?_ <;> intro h5 q5
 refine ac ?_
 refine wk3 2 3 34 rfl ?_
 refine ac ?_
 refine ac ?_
 · refine int_eq ?_; unfold alw; repeat (first | (refine (if_pos ?_).symm; omega) | (refine Eq.trans ?_ (if_neg ?_).symm; rotate_left; focus (simp_all; done)))
 refine ac ?_
 refine wk3 2 3 34 rfl ?_
 refine Tr.cn rfl ?_ ?_ <;> intro h6 q6
 refine ac ?_
 refine ac ?_
 · refine int_eq ?_; unfold alw; repeat (first | (refine (if_pos ?_).symm; omega) | (refine Eq.trans ?_ (if_neg ?_).symm; rotate_left; focus (simp_all; done)))
 refine Tr.skip (Fin.block (Fin.fam_same () (by omega) (kk2 rfl)))
 refine ac ?_
 refine Tr.cn rfl ?_ ?_ <;> intro h7 q7
 refine ac ?_
 refine Ch.cs 40 rfl ?_ ?_ <;> intro h8 q8
 refine ac ?_
 refine wk3 2 3 47 rfl ?_
 refine ac ?_
 refine ac ?_
 · refine int_eq ?_; unfold alw; repeat (first | (refine Eq.trans ?_ (if_neg ?_).symm; rotate_left; focus (omega)) | (refine (if_pos ?_).symm; omega) | (refine Eq.trans ?_ (if_neg ?_).symm; rotate_left; focus (simp_all; done)))
 refine ac ?_
 refine wk3 2 3 47 rfl ?_
 refine Tr.cn rfl ?_ ?_ <;> intro h9 q9
 refine ac ?_
 refine ac ?_
 · refine int_eq ?_; unfold alw; repeat (first | (refine Eq.trans ?_ (if_neg ?_).symm; rotate_left; focus (omega)) | (refine (if_pos ?_).symm; omega) | (refine Eq.trans ?_ (if_neg ?_).symm; rotate_left; focus (simp_all; done)))
 refine Tr.skip (Fin.block (Fin.fam_same () (by omega) (kk2 rfl)))
 refine ac ?_
 refine Tr.cn rfl ?_ ?_ <;> intro h10 q10
 refine ac ?_
 refine Tr.cond rfl (fun _ => ?_) (fun h => nomatch h10.symm.trans h)
 refine ac ?_
 refine Ch.cs 54 rfl ?_ ?_ <;> intro h11 q11
 refine ac ?_
 refine wk3 2 3 58 rfl ?_
 refine Tr.cn rfl ?_ ?_ <;> intro h12 q12
 refine ac ?_
 refine ac ?_
 · refine int_eq ?_; unfold alw; repeat (first | (refine Eq.trans ?_ (if_neg ?_).symm; rotate_left; focus (omega)) | (refine (if_pos ?_).symm; omega) | (refine Eq.trans ?_ (if_neg ?_).symm; rotate_left; focus (simp_all; done)))
 refine Tr.skip (Fin.block (Fin.fam_same () (by omega) (kk2 rfl)))
 refine ac ?_
 refine wk3 2 3 58 rfl (Tr.cond rfl (fun h => nomatch h) (fun _ => ?_))
 refine Tr.skip (Fin.block (Fin.fam_same () (by omega) (kk2 rfl)))
 refine ac ?_
 refine Tr.cn rfl ?_ ?_ <;> intro h13 q13
 refine ac ?_
 refine Ch.cs 54 rfl ?_ ?_ <;> intro h14 q14
 refine ac ?_
 refine wk3 2 3 58 rfl ?_
 refine Tr.cn rfl ?_ ?_ <;> intro h15 q15
 refine ac ?_
 refine ac ?_
 · refine int_eq ?_; unfold alw; repeat (first | (refine Eq.trans ?_ (if_neg ?_).symm; rotate_left; focus (omega)) | (refine (if_pos ?_).symm; omega) | (refine Eq.trans ?_ (if_neg ?_).symm; rotate_left; focus (simp_all; done)))
 refine Tr.skip (Fin.block (Fin.fam_same () (by omega) (kk2 rfl)))
 refine ac ?_
 refine wk3 2 3 58 rfl (Tr.cond rfl (fun h => nomatch h) (fun _ => ?_))
 refine Tr.skip (Fin.block (Fin.fam_same () (by omega) (kk2 rfl)))
 refine Tr.skip (Fin.block (Fin.fam_same () (by omega) (kk2 rfl)))
 refine wk2 2 3 rfl (Tr.cutk [2, 3] [] (¬ ((lstR e c.kind).2.2 = true ∧ decide (0 ≤ idx (fun y => c.number == y) (lstR e c.kind).1) = (lstR e c.kind).2.1)) ?_ (fun hlst => ?_))
 refine ac ?_
 refine co rfl (kc2 (w_R24listed) rfl rfl rfl) ?_
 refine ac ?_
 refine ac ?_
 refine Ch.cs 68 rfl ?_ ?_ <;> intro h17 q17
 refine ac ?_
 refine cy h17 rfl (kc2 (w_R24place) rfl rfl rfl) ?_
 refine ac ?_
 refine wk3 2 3 76 rfl ?_
 refine Tr.cn rfl ?_ ?_ <;> intro h18 q18
 refine ac ?_
 refine ac ?_
 · refine int_eq ?_; unfold alw; repeat (first | (refine Eq.trans ?_ (if_neg ?_).symm; rotate_left; focus (omega)) | (refine Eq.trans ?_ (if_neg ?_).symm; rotate_left; focus (simp_all; done)) | (refine (if_pos ?_).symm; simp_all; done))
 refine Tr.skip (Fin.fam_same () (by simp_all) (kk2 rfl))
 refine ac ?_
 refine wk3 2 3 76 rfl (Tr.cond rfl (fun h => nomatch h) (fun _ => ?_))
 refine Tr.skip (Fin.fam_same () (by simp_all) (kk2 rfl))
 refine wk2 2 3 rfl (Tr.cutk [2, 3] [] (¬ ((valR e c.kind).2 = true ∧ (valR e c.kind).1 = c.number)) ?_ (fun hval => ?_))
 refine ac ?_
 refine co rfl (kc2 (w_R24value) rfl rfl rfl) ?_
 refine ac ?_
 refine ac ?_
 refine Ch.cs 85 rfl ?_ ?_ <;> intro h20 q20
 refine ac ?_
 refine wk3 2 3 90 rfl ?_
 refine Tr.cn rfl ?_ ?_ <;> intro h21 q21
 refine ac ?_
 refine ac ?_
 · refine int_eq ?_; unfold alw; repeat (first | (refine Eq.trans ?_ (if_neg ?_).symm; rotate_left; focus (omega)) | (refine Eq.trans ?_ (if_neg ?_).symm; rotate_left; focus (simp_all; done)) | (refine (if_pos ?_).symm; simp_all; done))
 refine Tr.skip (Fin.fam_same () (by simp_all) (kk2 rfl))
 refine ac ?_
 refine wk3 2 3 90 rfl (Tr.cond rfl (fun h => nomatch h) (fun _ => ?_))
 refine Tr.skip (Fin.fam_same () (by simp_all) (kk2 rfl))
 refine wk2 2 3 rfl (Tr.cutk [2, 3] [] (¬ (c.kind = 5 ∧ 0 < cntK c.idn.keyId e.ids)) ?_ (fun hadd => ?_))
 refine ac ?_
 refine Tr.cn rfl ?_ ?_ <;> intro h23 q23
 refine ac ?_
 refine co rfl (kc2 (w_R24keys hsm.idl) rfl rfl rfl) ?_
 refine ac ?_
 refine wk3 2 3 10 rfl ?_
 refine ac ?_
 refine Tr.cn rfl ?_ ?_ <;> intro h24 q24
 refine ac ?_
 refine ac ?_
 · refine int_eq ?_; unfold alw; repeat (first | (refine Eq.trans ?_ (if_neg ?_).symm; rotate_left; focus (omega)) | (refine (if_pos ?_).symm; omega) | (refine Eq.trans ?_ (if_neg ?_).symm; rotate_left; focus (simp_all; done)))
 refine Tr.skip (Fin.fam_same () (by omega) (kk2 rfl))
 refine Tr.skip (Fin.fam_same () (by omega) (kk2 rfl))
 refine ac ?_
 refine Tr.cn rfl ?_ ?_ <;> intro h25 q25
 refine ac ?_
 refine co rfl (kc2 (w_R24keys hsm.idl) rfl rfl rfl) ?_
 refine ac ?_
 refine wk1 12 rfl ?_
 refine ac ?_
 refine Tr.cn rfl ?_ ?_ <;> intro h26 q26
 refine ac ?_
 refine ac ?_
 · refine int_eq ?_; unfold alw; repeat (first | (refine Eq.trans ?_ (if_neg ?_).symm; rotate_left; focus (omega)) | (refine (if_pos ?_).symm; omega) | (refine Eq.trans ?_ (if_neg ?_).symm; rotate_left; focus (simp_all; done)))
 refine ac ?_
 refine ac ?_
 refine Tr.cn rfl ?_ ?_ <;> intro h27 q27
 refine ac ?_
 refine ac ?_
 · refine int_eq ?_; unfold alw; repeat (first | (refine Eq.trans ?_ (if_neg ?_).symm; rotate_left; focus (omega)) | (refine (if_pos ?_).symm; omega) | (refine Eq.trans ?_ (if_neg ?_).symm; rotate_left; focus (simp_all; done)))
 refine ac ?_
 refine ac ?_
 refine ac ?_
 · refine int_eq ?_; unfold alw; repeat (first | rfl | (refine Eq.trans ?_ (if_neg ?_).symm; rotate_left; focus (omega)) | (refine Eq.trans ?_ (if_neg ?_).symm; rotate_left; focus (simp_all; done)))
 refine ac ?_
 refine ac ?_
 refine ac ?_
 · refine int_eq ?_; unfold alw; repeat (first | rfl | (refine Eq.trans ?_ (if_neg ?_).symm; rotate_left; focus (omega)) | (refine Eq.trans ?_ (if_neg ?_).symm; rotate_left; focus (simp_all; done)))
theorem ok_1 {e e2 : Ept} {c b : Chg} (h : c.kind = 1) (hs : stepR e c = .ok (e2, b)) : (0 ≤ c.at_ ∧ c.at_ ≤ (e.suites.length : Nat)) ∧ e2 = { e with suites := e.suites.take c.at_.toNat ++ [c.number] ++ e.suites.drop c.at_.toNat } ∧ b = ⟨c.endpoint, 2, c.number, 0, zeroId⟩ := by
 rw [stepR_1 h] at hs
 (repeat' (split at hs)) <;> first | (cases hs; done) | (injection hs with hs; injection hs with h1 h2; exact ⟨by omega, h1.symm, h2.symm⟩)
theorem ok_2 {e e2 : Ept} {c b : Chg} (h : c.kind = 2) (hs : stepR e c = .ok (e2, b)) : (0 ≤ sIdx e c) ∧ e2 = { e with suites := e.suites.eraseIdx (sIdx e c).toNat } ∧ b = ⟨c.endpoint, 1, c.number, sIdx e c, zeroId⟩ := by
 rw [stepR_2 h] at hs
 (repeat' (split at hs)) <;> first | (cases hs; done) | (injection hs with hs; injection hs with h1 h2; exact ⟨by omega, h1.symm, h2.symm⟩)
theorem ok_3 {e e2 : Ept} {c b : Chg} (h : c.kind = 3) (hs : stepR e c = .ok (e2, b)) : e2 = { e with most := c.number } ∧ b = ⟨c.endpoint, c.kind, e.most, 0, zeroId⟩ := by
 rw [stepR_3 h] at hs
 (repeat' (split at hs)) <;> first | (cases hs; done) | (injection hs with hs; injection hs with h1 h2; exact ⟨h1.symm, h2.symm⟩)
theorem ok_4 {e e2 : Ept} {c b : Chg} (h : c.kind = 4) (hs : stepR e c = .ok (e2, b)) : e2 = { e with least := c.number } ∧ b = ⟨c.endpoint, c.kind, e.least, 0, zeroId⟩ := by
 rw [stepR_4 h] at hs
 (repeat' (split at hs)) <;> first | (cases hs; done) | (injection hs with hs; injection hs with h1 h2; exact ⟨h1.symm, h2.symm⟩)
theorem ok_5 {e e2 : Ept} {c b : Chg} (h : c.kind = 5) (hs : stepR e c = .ok (e2, b)) : (0 ≤ c.at_ ∧ c.at_ ≤ (e.ids.length : Nat)) ∧ e2 = { e with ids := e.ids.take c.at_.toNat ++ [c.idn] ++ e.ids.drop c.at_.toNat } ∧ b = ⟨c.endpoint, 6, c.idn.keyId, 0, zeroId⟩ := by
 rw [stepR_5 h] at hs
 (repeat' (split at hs)) <;> first | (cases hs; done) | (injection hs with hs; injection hs with h1 h2; exact ⟨by omega, h1.symm, h2.symm⟩)
theorem ok_6 {e e2 : Ept} {c b : Chg} (h : c.kind = 6) (hs : stepR e c = .ok (e2, b)) : ∃ x, e.ids[(keyIdx c.number e.ids).toNat]? = some x ∧ 0 ≤ keyIdx c.number e.ids ∧ e2 = { e with ids := e.ids.eraseIdx (keyIdx c.number e.ids).toNat } ∧ b = ⟨c.endpoint, 5, 0, keyIdx c.number e.ids, x⟩ := by
 rw [stepR_6 h] at hs
 (repeat' (split at hs)) <;> first | (cases hs; done) | (injection hs with hs; injection hs with h1 h2; exact ⟨_, by assumption, by omega, h1.symm, h2.symm⟩)
theorem ok_7 {e e2 : Ept} {c b : Chg} (h : c.kind = 7) (hs : stepR e c = .ok (e2, b)) : hasX e.anchors c.number = false ∧ e2 = { e with anchors := insX e.anchors c.number } ∧ b = ⟨c.endpoint, 8, c.number, 0, zeroId⟩ := by
 rw [stepR_7 h] at hs
 (repeat' (split at hs)) <;> first | (cases hs; done) | (injection hs with hs; injection hs with h1 h2; exact ⟨by simp_all, h1.symm, h2.symm⟩)
theorem ok_8 {e e2 : Ept} {c b : Chg} (h : c.kind = 8) (hs : stepR e c = .ok (e2, b)) : hasX e.anchors c.number = true ∧ e2 = { e with anchors := e.anchors.eraseIdx (posI e.anchors c.number) } ∧ b = ⟨c.endpoint, 7, c.number, 0, zeroId⟩ := by
 rw [stepR_8 h] at hs
 (repeat' (split at hs)) <;> first | (cases hs; done) | (injection hs with hs; injection hs with h1 h2; exact ⟨by simp_all, h1.symm, h2.symm⟩)
theorem ok_9 {e e2 : Ept} {c b : Chg} (h : c.kind = 9) (hs : stepR e c = .ok (e2, b)) : hasX e.hashes c.number = false ∧ e2 = { e with hashes := insX e.hashes c.number } ∧ b = ⟨c.endpoint, 10, c.number, 0, zeroId⟩ := by
 rw [stepR_9 h] at hs
 (repeat' (split at hs)) <;> first | (cases hs; done) | (injection hs with hs; injection hs with h1 h2; exact ⟨by simp_all, h1.symm, h2.symm⟩)
theorem ok_10 {e e2 : Ept} {c b : Chg} (h : c.kind = 10) (hs : stepR e c = .ok (e2, b)) : hasX e.hashes c.number = true ∧ e2 = { e with hashes := e.hashes.eraseIdx (posI e.hashes c.number) } ∧ b = ⟨c.endpoint, 9, c.number, 0, zeroId⟩ := by
 rw [stepR_10 h] at hs
 (repeat' (split at hs)) <;> first | (cases hs; done) | (injection hs with hs; injection hs with h1 h2; exact ⟨by simp_all, h1.symm, h2.symm⟩)
theorem ok_11 {e e2 : Ept} {c b : Chg} (h : c.kind = 11) (hs : stepR e c = .ok (e2, b)) : e2 = { e with fall := (c.number == 1) } ∧ b = ⟨c.endpoint, c.kind, bitI e.fall, 0, zeroId⟩ := by
 rw [stepR_11 h] at hs
 (repeat' (split at hs)) <;> first | (cases hs; done) | (injection hs with hs; injection hs with h1 h2; exact ⟨h1.symm, h2.symm⟩)
theorem ok_12 {e e2 : Ept} {c b : Chg} (h : c.kind = 12) (hs : stepR e c = .ok (e2, b)) : e2 = { e with own := (c.number == 1) } ∧ b = ⟨c.endpoint, c.kind, bitI e.own, 0, zeroId⟩ := by
 rw [stepR_12 h] at hs
 (repeat' (split at hs)) <;> first | (cases hs; done) | (injection hs with hs; injection hs with h1 h2; exact ⟨h1.symm, h2.symm⟩)

theorem sIdx_lt {e : Ept} {c : Chg} (h : 0 ≤ sIdx e c) : (sIdx e c).toNat < e.suites.length := by obtain ⟨_, _, _, h3⟩ := idx_hit (p := fun y => c.number == y) (l := e.suites) h; exact h3
theorem w_R24made {e e2 : Ept} {c b : Chg} (hsm : e.small) (hcs : c.idn.small) (hce : eptB e = true) (hc : okCh c) (hs : stepR e c = .ok (e2, b)) : Fun prog 76 [agg (rowEp e), agg (rowChg c)] (agg (rowEp e2)) := by
 refine fo func76 rfl ⟨rfl, rfl⟩ fun M0 w0 => ?_
 have hk := hc.1
 have ok := eptB_iff.1 hce
 have hs1 := hsm.suites
 have hs2 := hsm.anchors
 have hs3 := hsm.hashes
 have hs4 := hsm.idl
 refine Tr.seq (Tr.regT (tp rfl (ok_box rfl (Va rfl)) (tp rfl (ok_box rfl (Va rfl)) ?_)))
 refine Tl rfl rfl rfl rfl z32 zo32 (fun b1 => ?_)
 refine ap ?_
 refine ap ?_
 refine tp rfl (kc1 (w_R24Copy hsm) rfl rfl) ?_
 refine Tl rfl rfl rfl rfl z32 zo32 (fun b2 => ?_)
 refine ap ?_
 refine ac ?_
 refine ac ?_
 refine Tr.cn rfl ?_ ?_ <;> intro h1 q1
 obtain ⟨hr, rfl, rfl⟩ := ok_1 q1 hs
 refine ap ?_
 refine tp rfl (ok_call rfl (w_R24with (l := e.suites) (i := c.at_.toNat) (by omega) hs1) ⟨ke rfl, ⟨_, rfl, int_eq (by omega)⟩, ke rfl, trivial⟩) ?_
 refine ap ?_
 refine wk2 4 5 rfl ?_
 refine ap ?_
 refine Tr.drop 0 (Tr.ret (Fin.retX1 rfl (RVal.cell 0 rfl rfl agg32 sz32 rfl (Lr)) ?_))
 · exact Lr
 refine ac ?_
 refine wk6 2 3 4 5 13 24 rfl ?_
 refine Tr.cn rfl ?_ ?_ <;> intro h2 q2
 obtain ⟨hr, rfl, rfl⟩ := ok_2 q2 hs
 refine Tr.rx ?_
 refine ay ?_
 refine xo rfl (fun _ => kc2 (w_R24place) rfl rfl rfl) ?_
 refine xo rfl (fun _ => ok_call rfl (w_R24without (l := e.suites) (i := (sIdx e c).toNat) (sIdx_lt hr) hs1) ⟨ke rfl, ⟨_, rfl, int_eq (show sIdx e c = _ by omega)⟩, trivial⟩) ?_
 refine ay ?_
 refine Cx.nil ⟨by kernel_rfl, ?_⟩
 refine FinX.done al2 ?_
 refine ac ?_
 refine wk2 4 5 rfl ?_
 refine ap ?_
 refine Tr.drop 0 (Tr.ret (Fin.retX1 rfl (RVal.cell 0 rfl rfl agg32 sz32 rfl (Lr)) ?_))
 · exact Lr
 refine ac ?_
 refine Tr.cn rfl ?_ ?_ <;> intro h3 q3
 obtain ⟨rfl, rfl⟩ := ok_3 q3 hs
 refine ap ?_
 refine ap ?_
 refine Tr.drop 0 (Tr.ret (Fin.retX1 rfl (RVal.cell 0 rfl rfl agg32 sz32 rfl (Lr)) ?_))
 · exact Lr
 refine ac ?_
 refine Tr.cn rfl ?_ ?_ <;> intro h4 q4
 obtain ⟨rfl, rfl⟩ := ok_4 q4 hs
 refine ap ?_
 refine ap ?_
 refine Tr.drop 0 (wk1 4 rfl (Tr.ret (Fin.retX1 rfl (RVal.cell 0 rfl rfl agg32 sz32 rfl (Lr)) ?_)))
 · exact Lr
 refine ac ?_
 refine Tr.cn rfl ?_ ?_ <;> intro h5 q5
 obtain ⟨hr, rfl, rfl⟩ := ok_5 q5 hs
 refine ap ?_
 refine tp rfl (ok_sliceTo rfl underlying30 sz27 (vl rfl) (vl rfl) (by omega) (by simp; omega)) ?_
 refine TO.pad ?_
 refine TO.efs 0 rfl rfl (by decide) (ef_append rfl rfl (by decide) rfl underlying30 sz27 by27 z27 rfl (by decide) ⟨_, rfl, nil_slice _⟩ (vl rfl) (by simp only [List.length_map, List.length_append, List.length_cons, List.length_nil, List.length_take, List.length_drop]; unfold maxLen; omega) (by simp only [List.length_map, List.length_append, List.length_cons, List.length_nil, List.length_take, List.length_drop]; omega) (appR_full (by exact List.Mem.head _) ⟨_, rfl, nil_full 1⟩)) (fun v1 => ?_)
 refine ap ?_
 refine wk4 3 4 5 6 rfl ?_
 refine ap ?_
 refine tp rfl (kc1 (w_R24CopyI hcs) rfl rfl) (tp rfl (ok_buildSlice (xs := [.tmp 56]) (rows := [_]) rfl rfl underlying30 sz27 z27 rfl (by decide) ⟨⟨(by exact rfl), (Va rfl)⟩, trivial⟩ (by decide)) ?_)
 refine TO.efs 0 rfl rfl (by decide) (eApp rfl rfl rfl rfl underlying30 sz27 by27 z27 (Kb rfl) (Kf rfl) (appR_is (by exact List.Mem.head _) (Ka rfl))) (fun v2 => ?_)
 refine ap ?_
 refine ap ?_
 refine tp rfl (ok_sliceFrom rfl underlying30 sz27 (vl rfl) (vl rfl) (by omega) (by simp; omega)) ?_
 refine TO.efs 0 rfl rfl (by decide) (eApp rfl rfl rfl rfl underlying30 sz27 by27 z27 (Kb rfl) (vl rfl) (appR_is (by exact List.Mem.head _) (Ka rfl))) (fun v3 => ?_)
 refine ap ?_
 refine wk2 4 5 rfl ?_
 refine ap ?_
 refine Tr.drop 1 (Tr.ret (Fin.retX1 rfl (RVal.cell 1 rfl rfl agg32 sz32 rfl (Lr)) ?_))
 · exact agg_le ⟨Lr, Lr, Lr, Lr, Lr, Pr.le_trans (andIs_le _ _) (Pr.le_of_eq (by show _ = slice 4 ((e.ids.take c.at_.toNat ++ [c.idn] ++ e.ids.drop c.at_.toNat).map rowId); simp [List.map_take, List.map_drop])), Lr, Lr, Lr, trivial⟩
 refine ac ?_
 refine wk6 2 3 4 5 13 67 rfl ?_
 refine Tr.cn rfl ?_ ?_ <;> intro h6 q6
 obtain ⟨x_, hx_, hr, rfl, rfl⟩ := ok_6 q6 hs
 have hlt := lt_of_at hx_
 refine ac ?_
 refine co rfl (kc2 (w_R24keys hs4) rfl rfl rfl) ?_
 refine ac ?_
 refine wk3 4 5 8 rfl ?_
 refine ap ?_
 refine tp rfl (ok_sliceTo rfl underlying30 sz27 (vl rfl) (vl rfl) (by omega) (by simp; omega)) ?_
 refine TO.pad ?_
 refine TO.efs 0 rfl rfl (by decide) (ef_append rfl rfl (by decide) rfl underlying30 sz27 by27 z27 rfl (by decide) ⟨_, rfl, nil_slice _⟩ (vl rfl) (by simp only [List.length_map, List.length_append, List.length_cons, List.length_nil, List.length_take, List.length_drop]; unfold maxLen; omega) (by simp only [List.length_map, List.length_append, List.length_cons, List.length_nil, List.length_take, List.length_drop]; omega) (appR_full (by exact List.Mem.head _) ⟨_, rfl, nil_full 1⟩)) (fun v4 => ?_)
 refine ap ?_
 refine ap ?_
 refine tp rfl (ok_sliceFrom rfl underlying30 sz27 (vl rfl) (vl rfl) (by omega) (by simp; omega)) ?_
 refine TO.efs 0 rfl rfl (by decide) (eApp rfl rfl rfl rfl underlying30 sz27 by27 z27 (Kb rfl) (vl rfl) (appR_is (by exact List.Mem.head _) (Ka rfl))) (fun v5 => ?_)
 refine ap ?_
 refine wk2 4 5 rfl ?_
 refine ap ?_
 refine Tr.drop 1 (Tr.ret (Fin.retX1 rfl (RVal.cell 1 rfl rfl agg32 sz32 rfl (Lr)) ?_))
 · exact agg_le ⟨Lr, Lr, Lr, Lr, Lr, Pr.le_trans (andIs_le _ _) (Pr.le_of_eq (by show _ = slice 4 ((e.ids.eraseIdx (keyIdx c.number e.ids).toNat).map rowId); rw [List.eraseIdx_eq_take_drop_succ, show (keyIdx c.number e.ids + 1).toNat = (keyIdx c.number e.ids).toNat + 1 by omega]; simp [List.map_take, List.map_drop])), Lr, Lr, Lr, trivial⟩
 refine ac ?_
 refine Tr.cn rfl ?_ ?_ <;> intro h7 q7
 obtain ⟨hr, rfl, rfl⟩ := ok_7 q7 hs
 refine ap ?_
 refine tp rfl (kc2 (w_R24sorted hs2) rfl rfl rfl) ?_
 refine ap ?_
 refine wk2 4 5 rfl ?_
 refine ap ?_
 refine Tr.drop 0 (Tr.ret (Fin.retX1 rfl (RVal.cell 0 rfl rfl agg32 sz32 rfl (Lr)) ?_))
 · exact Lr
 refine ac ?_
 refine Tr.cn rfl ?_ ?_ <;> intro h8 q8
 obtain ⟨hr, rfl, rfl⟩ := ok_8 q8 hs
 refine Tr.rx ?_
 refine ay ?_
 refine xo rfl (fun _ => kc2 (w_R24place) rfl rfl rfl) ?_
 refine xo rfl (fun _ => ok_call rfl (w_R24without (l := e.anchors) (i := posI e.anchors c.number) (hasX_lt hr) hs2) ⟨ke rfl, ⟨_, rfl, int_eq (by rw [idx_has (ascI_of ok.anc), if_pos hr])⟩, trivial⟩) ?_
 refine ay ?_
 refine Cx.nil ⟨by kernel_rfl, ?_⟩
 refine FinX.done al2 ?_
 refine ac ?_
 refine wk2 4 5 rfl ?_
 refine ap ?_
 refine Tr.drop 0 (Tr.ret (Fin.retX1 rfl (RVal.cell 0 rfl rfl agg32 sz32 rfl (Lr)) ?_))
 · exact Lr
 refine ac ?_
 refine Tr.cn rfl ?_ ?_ <;> intro h9 q9
 obtain ⟨hr, rfl, rfl⟩ := ok_9 q9 hs
 refine ap ?_
 refine tp rfl (kc2 (w_R24sorted hs3) rfl rfl rfl) ?_
 refine ap ?_
 refine wk2 4 5 rfl ?_
 refine ap ?_
 refine Tr.drop 0 (Tr.ret (Fin.retX1 rfl (RVal.cell 0 rfl rfl agg32 sz32 rfl (Lr)) ?_))
 · exact Lr
 refine ac ?_
 refine wk6 2 3 4 5 13 116 rfl ?_
 refine Tr.cn rfl ?_ ?_ <;> intro h10 q10
 obtain ⟨hr, rfl, rfl⟩ := ok_10 q10 hs
 refine Tr.rx ?_
 refine ay ?_
 refine xo rfl (fun _ => kc2 (w_R24place) rfl rfl rfl) ?_
 refine xo rfl (fun _ => ok_call rfl (w_R24without (l := e.hashes) (i := posI e.hashes c.number) (hasX_lt hr) hs3) ⟨ke rfl, ⟨_, rfl, int_eq (by rw [idx_has (ascI_of ok.hash), if_pos hr])⟩, trivial⟩) ?_
 refine ay ?_
 refine Cx.nil ⟨by kernel_rfl, ?_⟩
 refine FinX.done al2 ?_
 refine ac ?_
 refine wk2 4 5 rfl ?_
 refine ap ?_
 refine Tr.drop 0 (Tr.ret (Fin.retX1 rfl (RVal.cell 0 rfl rfl agg32 sz32 rfl (Lr)) ?_))
 · exact Lr
 refine ac ?_
 refine Tr.cn rfl ?_ ?_ <;> intro h11 q11
 obtain ⟨rfl, rfl⟩ := ok_11 q11 hs
 refine ap ?_
 refine ap ?_
 refine Tr.drop 0 (Tr.ret (Fin.retX1 rfl (RVal.cell 0 rfl rfl agg32 sz32 rfl (Lr)) ?_))
 · exact Lr
 refine ac ?_
 refine Tr.cn rfl ?_ ?_ <;> intro h12 q12
 obtain ⟨rfl, rfl⟩ := ok_12 q12 hs
 refine ap ?_
 refine wk2 4 5 rfl ?_
 refine ap ?_
 refine Tr.drop 0 (Tr.ret (Fin.retX1 rfl (RVal.cell 0 rfl rfl agg32 sz32 rfl (Lr)) ?_))
 · exact Lr
 exfalso; omega
theorem w_R24Apply {e : Ept} {c : Chg} {n : Nat} (hz : e.sz n) (hn : n ≤ 900000) (hi : c.idn.fits ∧ c.idn.small) : Fun prog 19 [agg (rowEp e), agg (rowChg c)] (tup [agg (rowEp (doneR e c).1), int (doneR e c).2.2]) := by
 refine fo func19 rfl ⟨rfl, rfl⟩ fun M0 w0 => ?_
 have hsm := hz.small (by omega)
 have hcs := hi.2
 refine Tr.seq (Tr.regT (tp rfl (ok_box rfl (Va rfl)) (tp rfl (ok_box rfl (Va rfl)) ?_)))
 refine Tl rfl rfl rfl rfl z32 zo32 (fun b1 => ?_)
 refine ao ?_
 refine ac ?_
 refine co rfl (kc2 (w_R24allowed hsm hcs) rfl rfl rfl) ?_
 refine ac ?_
 refine an ?_ ?_ <;> intro h1 q1
 have hb := alw_bad q1
 refine ao ?_
 refine TO.store_all 0 rfl rfl rfl (vl rfl) (Va rfl) rfl sz32 rfl rfl ?_
 refine ao ?_
 refine wk2 4 5 rfl (Tr.ret (Fin.then_ret (Fin.retX2 rfl (RVal.cell 0 rfl rfl agg32 sz32 rfl (Lr)) (RVal.tmp rfl (Lr)) ?_)))
 refine tup_le ⟨?_, ?_, trivial⟩
 · rw [hb]; exact agg_le ⟨Lr, Lr, Lr, nil_slice 1, Lr, nil_slice 4, nil_slice 1, nil_slice 1, Lr, trivial⟩
 · exact int_eq (by rw [hb])
 obtain ⟨hce, hc, e2, b, hs⟩ := alw_ok (e := e) (c := c) (by have := q1; omega)
 have hsm2 := (sz_step hc hs hz hi).1.small (by omega)
 refine ac ?_
 refine ao ?_
 refine tp rfl (kc2 (w_R24made hsm hcs hce hc hs) rfl rfl rfl) ?_
 refine Tl rfl rfl rfl rfl z32 zo32 (fun b2 => ?_)
 refine sf 0 7 ⟨rfl, rfl, rfl⟩ rfl rfl rfl rfl ?_
 refine ao ?_
 refine wk2 4 7 rfl ?_
 refine ac ?_
 refine co rfl (kc1 (w_R9Check hsm2) rfl rfl) ?_
 refine an ?_ ?_ <;> intro h2 q2
 have hb := doneR_v hce hc hs (by have := q2; cases h_ : eptB e2 <;> simp_all)
 refine ao ?_
 refine TO.store_all 0 rfl rfl rfl (vl rfl) (Va rfl) rfl sz32 rfl rfl ?_
 refine ao ?_
 refine Tr.ret (Fin.then_ret (Fin.retX2 rfl (RVal.cell 0 rfl rfl agg32 sz32 rfl (Lr)) (RVal.tmp rfl (Lr)) ?_))
 refine tup_le ⟨?_, ?_, trivial⟩
 · rw [hb]; exact agg_le ⟨Lr, Lr, Lr, nil_slice 1, Lr, nil_slice 4, nil_slice 1, nil_slice 1, Lr, trivial⟩
 · exact int_eq (by rw [hb])
 have hb := doneR_ok hce hc hs (by have := q2; cases h_ : eptB e2 <;> simp_all)
 refine ac ?_
 refine ao ?_
 refine TO.store_all 0 rfl rfl rfl (vl rfl) (Va rfl) rfl sz32 rfl rfl ?_
 refine ao ?_
 refine Tr.ret (Fin.retX2 rfl (RVal.cell 0 rfl rfl agg32 sz32 rfl (Lr)) (RVal.tmp rfl (Lr)) ?_)
 refine tup_le ⟨?_, ?_, trivial⟩
 · rw [hb]; exact Lr
 · exact int_eq (by rw [hb])
theorem w_R24Check {e : Ept} {c : Chg} {n : Nat} (hz : e.sz n) (hn : n ≤ 900000) (hi : c.idn.fits ∧ c.idn.small) : Fun prog 46 [agg (rowEp e), agg (rowChg c)] (int (doneR e c).2.2) := by
 refine fo func46 rfl ⟨rfl, rfl⟩ fun M0 w0 => ?_
 refine ac ?_
 refine ao ?_
 refine tp rfl (kc2 (w_R24Apply hz hn hi) rfl rfl rfl) ?_
 refine ao ?_
 refine Tl rfl rfl rfl rfl z32 zo32 (fun b1 => ?_)
 refine sf 0 5 ⟨rfl, rfl, rfl⟩ rfl rfl rfl rfl ?_
 refine ao ?_
 refine ac ?_
 refine wk1 4 rfl ?_
 refine ac ?_
 · exact Lr
theorem w_SEqI {a b : List (Int)}  : Fun prog 138 [ints a, ints b] (bool (decide (a = b))) := by
 refine fo func138 rfl ⟨rfl, rfl⟩ fun M0 w0 => (Tr.lenm 0 rfl fun hlm_0 => (Tr.lenm 1 rfl fun hlm_1 => ?_))
 refine ac ?_
 refine an ?_ ?_ <;> intro h1 q1
 have hne : ¬ a.length = b.length := by simp_all; omega
 refine a2 ?_
 · refine bool_eq ?_; symm; rw [decide_eq_false_iff_not]; rintro rfl; exact hne rfl
 have hll : a.length = b.length := by simp_all; omega
 refine a2 ?_
 refine Tr.block (Tr.loopw [(0, _), (1, _), (12, _)] (kk3 rfl) (fun k : Nat => [(13, int ((k : Nat) : Int))]) (fun k : Nat => k ≤ (a).length ∧ (a.take k = b.take k)) (fun k : Nat => (a).length - k) 0 (⟨Nat.zero_le _, rfl⟩) ⟨ke rfl, trivial⟩ ?_)
 rintro k ⟨hle_k, hinv_k⟩
 refine ac ?_
 refine Tr.seq ?_
 refine Tr.cn rfl ?_ ?_ <;> intro h2 q2
 have hk_k : k < (a).length := lt_of_dec h2
 obtain ⟨x, hx_k⟩ := at_ hk_k
 obtain ⟨y, hy⟩ := at_ (l := b) (k := k) (by omega)
 · repeat' first | (refine bool_eq ?_; symm; rw [decide_eq_false_iff_not]; refine sameN hx_k hy ?_; rintro rfl; simp_all) | exact Fin.fam_same (k + 1) ⟨⟨hk_k, sameY hx_k hy hinv_k (by simp_all)⟩, by omega⟩ ⟨⟨_, rfl, int_succ k⟩, ke rfl, ke rfl, ke rfl, trivial⟩ | refine co rfl (ok_indexAddr rfl underlying22 sz3 (vl rfl) (vl rfl) (by omega) (row_at hx_k)) ?_ | refine co rfl (ok_indexAddr rfl underlying22 sz3 (vl rfl) (vl rfl) (by omega) (row_at hy)) ?_ | refine ac ?_ | (refine Tr.cn rfl ?_ ?_ <;> intro h q)
 have he_k : k = (a).length := by have := ge_of_dec h2; omega
 subst he_k
 refine a3 ?_
 · refine bool_eq ?_; symm; rw [decide_eq_true_eq]; exact sameA hll hinv_k
theorem w_SEqT {a b : List (List UInt8)}  : Fun prog 131 [txts a, txts b] (bool (decide (a = b))) := by
 refine fo func131 rfl ⟨rfl, rfl⟩ fun M0 w0 => (Tr.lenm 0 rfl fun hlm_0 => (Tr.lenm 1 rfl fun hlm_1 => ?_))
 refine ac ?_
 refine an ?_ ?_ <;> intro h1 q1
 have hne : ¬ a.length = b.length := by simp_all; omega
 refine a2 ?_
 · refine bool_eq ?_; symm; rw [decide_eq_false_iff_not]; rintro rfl; exact hne rfl
 have hll : a.length = b.length := by simp_all; omega
 refine a2 ?_
 refine Tr.block (Tr.loopw [(0, _), (1, _), (12, _)] (kk3 rfl) (fun k : Nat => [(13, int ((k : Nat) : Int))]) (fun k : Nat => k ≤ (a).length ∧ (a.take k = b.take k)) (fun k : Nat => (a).length - k) 0 (⟨Nat.zero_le _, rfl⟩) ⟨ke rfl, trivial⟩ ?_)
 rintro k ⟨hle_k, hinv_k⟩
 refine ac ?_
 refine Tr.seq ?_
 refine Tr.cn rfl ?_ ?_ <;> intro h2 q2
 have hk_k : k < (a).length := lt_of_dec h2
 obtain ⟨x, hx_k⟩ := at_ hk_k
 obtain ⟨y, hy⟩ := at_ (l := b) (k := k) (by omega)
 · repeat' first | (refine bool_eq ?_; symm; rw [decide_eq_false_iff_not]; refine sameN hx_k hy ?_; rintro rfl; simp_all) | exact Fin.fam_same (k + 1) ⟨⟨hk_k, sameY hx_k hy hinv_k (by simp_all)⟩, by omega⟩ ⟨⟨_, rfl, int_succ k⟩, ke rfl, ke rfl, ke rfl, trivial⟩ | refine co rfl (ok_indexAddr rfl underlying74 sz9 (vl rfl) (vl rfl) (by omega) (row_at hx_k)) ?_ | refine co rfl (ok_indexAddr rfl underlying74 sz9 (vl rfl) (vl rfl) (by omega) (row_at hy)) ?_ | refine ac ?_ | (refine Tr.cn rfl ?_ ?_ <;> intro h q)
 have he_k : k = (a).length := by have := ge_of_dec h2; omega
 subst he_k
 refine a3 ?_
 · refine bool_eq ?_; symm; rw [decide_eq_true_eq]; exact sameA hll hinv_k
abbrev epts (l : List Ept) : Pr := slice 9 (l.map rowEp)

theorem w_CSame {a b : Crt}  : Fun prog 137 [agg (rowCr a), agg (rowCr b)] (bool (decide (a = b))) := by
 refine fo func137 rfl ⟨rfl, rfl⟩ fun M0 w0 => ?_
 refine ac ?_
 refine wk2 2 3 rfl (Tr.cutk [2, 3] [(5, bool (decide (a.serial = b.serial ∧ a.issuer = b.issuer ∧ a.subject = b.subject ∧ a.names = b.names)))] (True) ?_ (fun h1 => ?_))
 · repeat' first | exact Fin.fam_same () (by simp_all) ⟨⟨_, rfl, bool_eq (by simp_all)⟩, ke rfl, ke rfl, trivial⟩ | refine cy h rfl (kc2 (w_SEqT) rfl rfl rfl) ?_ | refine ac ?_ | (refine Ch.cg rfl rfl rfl ?_ ?_ <;> intro h q)
 refine wk3 2 3 5 rfl (Tr.cutk [2, 3, 5] [(6, bool (decide (a.kalg = b.kalg ∧ a.kbits = b.kbits ∧ a.keyId = b.keyId ∧ a.halg = b.halg ∧ a.hbits = b.hbits ∧ a.skey = b.skey ∧ a.ssum = b.ssum)))] (True) ?_ (fun h5 => ?_))
 · repeat' first | exact Fin.fam_same () (by simp_all) ⟨⟨_, rfl, bool_eq (by simp_all)⟩, ke rfl, ke rfl, ke rfl, trivial⟩ | refine co rfl (ok_eq24 rfl (vl rfl) (vl rfl)) (cm rfl ?_) | refine cy h rfl (ok_eq24 rfl (vl rfl) (vl rfl)) ?_ | refine cy h rfl (ok_eq129 rfl (vl rfl) (vl rfl)) ?_ | refine ac ?_ | (refine Ch.cg rfl rfl rfl ?_ ?_ <;> intro h q)
 · repeat' first | (refine bool_eq ?_; cases a; cases b; simp_all [Bool.beq_eq_decide_eq]) | refine ac ?_ | (refine Ch.cg rfl rfl rfl ?_ ?_ <;> intro h q)
theorem e_CSame : Entry Tryz.prog 137 := ⟨_, Tryz.func137, rfl, rfl⟩
theorem w_EqFC {a b : List Crt}  : Fun prog 85 [certs a, certs b, clo prog (fun p : Crt × Crt => [agg (rowCr p.1), agg (rowCr p.2)]) (fun p => bool (decide (p.1 = p.2)))] (bool (decide (a = b))) := by
 refine fo func85 rfl ⟨rfl, rfl⟩ fun M0 w0 => (Tr.lenm 0 rfl fun hlm_0 => (Tr.lenm 1 rfl fun hlm_1 => ?_))
 refine ac ?_
 refine an ?_ ?_ <;> intro h1 q1
 have hne : ¬ a.length = b.length := by simp_all; omega
 refine a2 ?_
 · refine bool_eq ?_; symm; rw [decide_eq_false_iff_not]; rintro rfl; exact hne rfl
 have hll : a.length = b.length := by simp_all; omega
 refine a2 ?_
 refine Tr.block (Tr.loopw [(1, _), (2, _), (15, _), (16, _)] (kk4 rfl) (fun k : Nat => [(17, int ((k : Nat) : Int))]) (fun k : Nat => k ≤ (a).length ∧ (a.take k = b.take k)) (fun k : Nat => (a).length - k) 0 (⟨Nat.zero_le _, rfl⟩) ⟨ke rfl, trivial⟩ ?_)
 rintro k ⟨hle_k, hinv_k⟩
 refine ac ?_
 refine Tr.seq ?_
 refine Tr.cn rfl ?_ ?_ <;> intro h2 q2
 have hk_k : k < (a).length := lt_of_dec h2
 obtain ⟨x, hx_k⟩ := at_ hk_k
 obtain ⟨y, hy⟩ := at_ (l := b) (k := k) (by omega)
 refine ac ?_
 refine ao ?_
 refine tp rfl (ok_indexAddr rfl underlying25 sz131 (vl rfl) (vl rfl) (by omega) (row_at hx_k)) (tp rfl (ok_loadA rfl agg131 sz131 (vl rfl) rfl rfl) ?_)
 refine Tl rfl rfl rfl rfl z131 zo131 (fun b1 => ?_)
 refine tm rfl ?_
 refine sf 0 8 ⟨rfl, rfl, rfl⟩ rfl rfl rfl rfl ?_
 refine ao ?_
 refine ao ?_
 refine tp rfl (ok_indexAddr rfl underlying25 sz131 (vl rfl) (vl rfl) (by omega) (row_at hy)) (tp rfl (ok_loadA rfl agg131 sz131 (vl rfl) rfl rfl) ?_)
 refine Tl rfl rfl rfl rfl z131 zo131 (fun b2 => ?_)
 refine sf 0 9 ⟨rfl, rfl, rfl⟩ rfl rfl rfl rfl ?_
 refine ao ?_
 · repeat' first | (refine bool_eq ?_; symm; rw [decide_eq_false_iff_not]; refine sameN hx_k hy ?_; rintro rfl; simp_all) | exact Fin.fam_same (k + 1) ⟨⟨hk_k, sameY hx_k hy hinv_k (by simp_all)⟩, by omega⟩ ⟨⟨_, rfl, int_succ k⟩, ke rfl, ke rfl, ke rfl, ke rfl, trivial⟩ | refine co rfl (ok_callc (x, y) rfl (vl rfl) ⟨ke rfl, ke rfl, trivial⟩) ?_ | refine ac ?_ | (refine Tr.cn rfl ?_ ?_ <;> intro h q)
 have he_k : k = (a).length := by have := ge_of_dec h2; omega
 subst he_k
 refine a3 ?_
 · refine bool_eq ?_; symm; rw [decide_eq_true_eq]; exact sameA hll hinv_k
theorem w_ES1 {a b : Idn}  : Fun prog 136 [agg (rowId a), agg (rowId b)] (bool (decide (a = b))) := by
 refine fo func136 rfl ⟨rfl, rfl⟩ fun M0 w0 => ?_
 · repeat' first | (refine bool_eq ?_; cases a; cases b; simp_all [Bool.beq_eq_decide_eq]) | refine co rfl (ok_eq24 rfl (vl rfl) (vl rfl)) (cm rfl ?_) | refine cy h rfl (ok_call rfl (w_EqFC) ⟨ke rfl, ke rfl, ⟨_, rfl, fn_le_clo (dom := fun p : Crt × Crt => [agg (rowCr p.1), agg (rowCr p.2)]) (res := fun p => bool (decide (p.1 = p.2))) e_CSame (fun p => w_CSame (a := p.1) (b := p.2))⟩, trivial⟩) ?_ | refine ac ?_ | (refine Ch.cg rfl rfl rfl ?_ ?_ <;> intro h q)
theorem e_ES1 : Entry Tryz.prog 136 := ⟨_, Tryz.func136, rfl, rfl⟩
theorem w_EqFN {a b : List Idn}  : Fun prog 139 [idns a, idns b, clo prog (fun p : Idn × Idn => [agg (rowId p.1), agg (rowId p.2)]) (fun p => bool (decide (p.1 = p.2)))] (bool (decide (a = b))) := by
 refine fo func139 rfl ⟨rfl, rfl⟩ fun M0 w0 => (Tr.lenm 0 rfl fun hlm_0 => (Tr.lenm 1 rfl fun hlm_1 => ?_))
 refine ac ?_
 refine an ?_ ?_ <;> intro h1 q1
 have hne : ¬ a.length = b.length := by simp_all; omega
 refine a2 ?_
 · refine bool_eq ?_; symm; rw [decide_eq_false_iff_not]; rintro rfl; exact hne rfl
 have hll : a.length = b.length := by simp_all; omega
 refine a2 ?_
 refine Tr.block (Tr.loopw [(1, _), (2, _), (15, _), (16, _)] (kk4 rfl) (fun k : Nat => [(17, int ((k : Nat) : Int))]) (fun k : Nat => k ≤ (a).length ∧ (a.take k = b.take k)) (fun k : Nat => (a).length - k) 0 (⟨Nat.zero_le _, rfl⟩) ⟨ke rfl, trivial⟩ ?_)
 rintro k ⟨hle_k, hinv_k⟩
 refine ac ?_
 refine Tr.seq ?_
 refine Tr.cn rfl ?_ ?_ <;> intro h2 q2
 have hk_k : k < (a).length := lt_of_dec h2
 obtain ⟨x, hx_k⟩ := at_ hk_k
 obtain ⟨y, hy⟩ := at_ (l := b) (k := k) (by omega)
 refine ac ?_
 refine ao ?_
 refine tp rfl (ok_indexAddr rfl underlying30 sz27 (vl rfl) (vl rfl) (by omega) (row_at hx_k)) (tp rfl (ok_loadA rfl agg27 sz27 (vl rfl) rfl rfl) ?_)
 refine Tl rfl rfl rfl rfl z27 zo27 (fun b1 => ?_)
 refine tm rfl ?_
 refine sf 0 8 ⟨rfl, rfl, rfl⟩ rfl rfl rfl rfl ?_
 refine ao ?_
 refine ao ?_
 refine tp rfl (ok_indexAddr rfl underlying30 sz27 (vl rfl) (vl rfl) (by omega) (row_at hy)) (tp rfl (ok_loadA rfl agg27 sz27 (vl rfl) rfl rfl) ?_)
 refine Tl rfl rfl rfl rfl z27 zo27 (fun b2 => ?_)
 refine sf 0 9 ⟨rfl, rfl, rfl⟩ rfl rfl rfl rfl ?_
 refine ao ?_
 · repeat' first | (refine bool_eq ?_; symm; rw [decide_eq_false_iff_not]; refine sameN hx_k hy ?_; rintro rfl; simp_all) | exact Fin.fam_same (k + 1) ⟨⟨hk_k, sameY hx_k hy hinv_k (by simp_all)⟩, by omega⟩ ⟨⟨_, rfl, int_succ k⟩, ke rfl, ke rfl, ke rfl, ke rfl, trivial⟩ | refine co rfl (ok_callc (x, y) rfl (vl rfl) ⟨ke rfl, ke rfl, trivial⟩) ?_ | refine ac ?_ | (refine Tr.cn rfl ?_ ?_ <;> intro h q)
 have he_k : k = (a).length := by have := ge_of_dec h2; omega
 subst he_k
 refine a3 ?_
 · refine bool_eq ?_; symm; rw [decide_eq_true_eq]; exact sameA hll hinv_k
theorem w_ESame {a b : Ept}  : Fun prog 91 [agg (rowEp a), agg (rowEp b)] (bool (decide (a = b))) := by
 refine fo func91 rfl ⟨rfl, rfl⟩ fun M0 w0 => ?_
 refine a2 ?_
 refine wk3 2 3 5 rfl (Tr.cutk [2, 3, 5] [(6, bool (decide (a.suites = b.suites ∧ a.anchors = b.anchors ∧ a.hashes = b.hashes)))] (True) ?_ (fun h1 => ?_))
 · repeat' first | exact Fin.fam_same () (by simp_all) ⟨⟨_, rfl, bool_eq (by simp_all)⟩, ke rfl, ke rfl, ke rfl, trivial⟩ | refine co rfl (kc2 (w_SEqI) rfl rfl rfl) (cm rfl ?_) | refine cy h rfl (kc2 (w_SEqI) rfl rfl rfl) ?_ | refine ac ?_ | (refine Ch.cg rfl rfl rfl ?_ ?_ <;> intro h q)
 · repeat' first | (refine bool_eq ?_; cases a; cases b; simp_all [Bool.beq_eq_decide_eq]) | refine cy h rfl (ok_call rfl (w_EqFN) ⟨ke rfl, ke rfl, ⟨_, rfl, fn_le_clo (dom := fun p : Idn × Idn => [agg (rowId p.1), agg (rowId p.2)]) (res := fun p => bool (decide (p.1 = p.2))) e_ES1 (fun p => w_ES1 (a := p.1) (b := p.2))⟩, trivial⟩) ?_ | refine ac ?_ | (refine Ch.cg rfl rfl rfl ?_ ?_ <;> intro h q)
theorem e_ESame : Entry Tryz.prog 91 := ⟨_, Tryz.func91, rfl, rfl⟩
theorem w_EqFE {a b : List Ept}  : Fun prog 90 [epts a, epts b, clo prog (fun p : Ept × Ept => [agg (rowEp p.1), agg (rowEp p.2)]) (fun p => bool (decide (p.1 = p.2)))] (bool (decide (a = b))) := by
 refine fo func90 rfl ⟨rfl, rfl⟩ fun M0 w0 => (Tr.lenm 0 rfl fun hlm_0 => (Tr.lenm 1 rfl fun hlm_1 => ?_))
 refine ac ?_
 refine an ?_ ?_ <;> intro h1 q1
 have hne : ¬ a.length = b.length := by simp_all; omega
 refine a2 ?_
 · refine bool_eq ?_; symm; rw [decide_eq_false_iff_not]; rintro rfl; exact hne rfl
 have hll : a.length = b.length := by simp_all; omega
 refine a2 ?_
 refine Tr.block (Tr.loopw [(1, _), (2, _), (15, _), (16, _)] (kk4 rfl) (fun k : Nat => [(17, int ((k : Nat) : Int))]) (fun k : Nat => k ≤ (a).length ∧ (a.take k = b.take k)) (fun k : Nat => (a).length - k) 0 (⟨Nat.zero_le _, rfl⟩) ⟨ke rfl, trivial⟩ ?_)
 rintro k ⟨hle_k, hinv_k⟩
 refine ac ?_
 refine Tr.seq ?_
 refine Tr.cn rfl ?_ ?_ <;> intro h2 q2
 have hk_k : k < (a).length := lt_of_dec h2
 obtain ⟨x, hx_k⟩ := at_ hk_k
 obtain ⟨y, hy⟩ := at_ (l := b) (k := k) (by omega)
 refine ac ?_
 refine ao ?_
 refine tp rfl (ok_indexAddr rfl underlying37 sz32 (vl rfl) (vl rfl) (by omega) (row_at hx_k)) (tp rfl (ok_loadA rfl agg32 sz32 (vl rfl) rfl rfl) ?_)
 refine Tl rfl rfl rfl rfl z32 zo32 (fun b1 => ?_)
 refine tm rfl ?_
 refine sf 0 8 ⟨rfl, rfl, rfl⟩ rfl rfl rfl rfl ?_
 refine ao ?_
 refine ao ?_
 refine tp rfl (ok_indexAddr rfl underlying37 sz32 (vl rfl) (vl rfl) (by omega) (row_at hy)) (tp rfl (ok_loadA rfl agg32 sz32 (vl rfl) rfl rfl) ?_)
 refine Tl rfl rfl rfl rfl z32 zo32 (fun b2 => ?_)
 refine sf 0 9 ⟨rfl, rfl, rfl⟩ rfl rfl rfl rfl ?_
 refine ao ?_
 · repeat' first | (refine bool_eq ?_; symm; rw [decide_eq_false_iff_not]; refine sameN hx_k hy ?_; rintro rfl; simp_all) | exact Fin.fam_same (k + 1) ⟨⟨hk_k, sameY hx_k hy hinv_k (by simp_all)⟩, by omega⟩ ⟨⟨_, rfl, int_succ k⟩, ke rfl, ke rfl, ke rfl, ke rfl, trivial⟩ | refine co rfl (ok_callc (x, y) rfl (vl rfl) ⟨ke rfl, ke rfl, trivial⟩) ?_ | refine ac ?_ | (refine Tr.cn rfl ?_ ?_ <;> intro h q)
 have he_k : k = (a).length := by have := ge_of_dec h2; omega
 subst he_k
 refine a3 ?_
 · refine bool_eq ?_; symm; rw [decide_eq_true_eq]; exact sameA hll hinv_k
/-- A host. -/
structure Hst where
 ep : Ept
 bef : List Ept
deriving DecidableEq
abbrev rowH (h : Hst) : List Pr := [str h.ep.name, int h.ep.least, int h.ep.most, ints h.ep.suites, bool h.ep.own, idns h.ep.ids, ints h.ep.anchors, ints h.ep.hashes, bool h.ep.fall, epts h.bef]
structure Hst.small (h : Hst) : Prop where
 ep : h.ep.small
 len : h.bef.length ≤ 1000000
 bef : ∀ e ∈ h.bef, e.small
def zeroH : Hst := ⟨zeroEp, []⟩
def backH (h : Hst) : Hst × Int := match h.bef[h.bef.length - 1]? with | some x => (⟨x, h.bef.take (h.bef.length - 1)⟩, 0) | none => (h, 4)
theorem backH_at {h : Hst} {x : Ept} (hx : h.bef[h.bef.length - 1]? = some x) : backH h = (⟨x, h.bef.take (h.bef.length - 1)⟩, 0) := by unfold backH; rw [hx]
def lastN {β : Type} (n : Nat) (l : List β) : List β := l.drop (l.length - n)
def tryH (h : Hst) (to : Ept) (k : Int) : Hst × Bool × Int :=
 if eptB to = false then (h, false, 19) else if to.name ≠ h.ep.name then (h, false, 14) else if ¬ (0 ≤ k ∧ k ≤ 3) then (h, false, 2)
 else (if k = 0 ∨ k = 2 then ⟨to, lastN 24 (h.bef ++ [h.ep])⟩ else h, decide (k = 0 ∨ k = 3), 0)

theorem andIs_mono {v : Value} {p q : Pr} (h : Pr.le p q) : Pr.le (andIs v p) (andIs v q) := fun _ _ _ x => ⟨x.1, h _ _ _ x.2⟩
theorem snocM {β γ : Type} {f : β → γ} {l : List β} {k : Nat} {x : β} (h : l[k]? = some x) : (l.take k).map f ++ [f x] = (l.take (k + 1)).map f := by rw [List.take_add_one, h, List.map_append]; rfl
theorem w_HCopy {h : Hst} (hs : h.small) : Fun prog 103 [agg (rowH h)] (agg (rowH h)) := by
 refine fo func103 rfl ⟨rfl, rfl⟩ fun M0 w0 => ?_
 have hl := hs.len
 refine Tr.seq (Tr.regT (tp rfl (ok_box rfl (Va rfl)) ?_))
 refine Tl rfl rfl rfl rfl z82 zo82 (fun b1 => ?_)
 refine ao ?_
 refine ao ?_
 refine tp rfl (kc1 (w_CopyEz hs.ep) rfl rfl) (tp rfl (oD) ?_)
 refine Tl rfl rfl rfl rfl z82 zo82 (fun b2 => ?_)
 refine TO.store_all 0 rfl rfl rfl (vl rfl) (Va rfl) rfl sz82 rfl rfl ?_
 refine ao ?_
 refine ac ?_
 refine Tr.block (Tr.reC 0 [str h.ep.name, int h.ep.least, int h.ep.most, ints h.ep.suites, bool h.ep.own, idns h.ep.ids, ints h.ep.anchors, ints h.ep.hashes, bool h.ep.fall, andIs (.slice none 0 0) (slice 9 ((h.bef.take 0).map rowEp))] rfl ⟨Lr, Lr, Lr, Lr, Lr, Lr, Lr, Lr, Lr, own_nil rfl, trivial⟩ (Tr.addnil 32 9 (Tr.loopV1 [(2, _), (3, _), (11, _), (12, _)] ⟨ke rfl, ke rfl, ke rfl, ke rfl, trivial⟩ (fun k v => [(13, int ((k : Nat) : Int))]) (fun k v => Hp M0 w0 noS ([appRes 32 9 v, cellsRes true b2 82 [str h.ep.name, int h.ep.least, int h.ep.most, ints h.ep.suites, bool h.ep.own, idns h.ep.ids, ints h.ep.anchors, ints h.ep.hashes, bool h.ep.fall, andIs v (slice 9 ((h.bef.take k).map rowEp))], cellsRes true b1 82 (([.string (ByteArray.mk #[]), .int .i64 0, .int .i64 0, .slice none 0 0, .bool false, .slice none 0 0, .slice none 0 0, .slice none 0 0, .bool false, .slice none 0 0] : List Value).map is)])) (fun k : Nat => k ≤ (h.bef).length) (fun k : Nat => (h.bef).length - k) 0 (.slice none 0 0) (Nat.zero_le _) ⟨ke rfl, trivial⟩ (fun _ _ h => h) ?_)))
 rintro k v hle_k
 refine ac ?_
 refine Tr.seq ?_
 refine Tr.cn rfl ?_ ?_ <;> intro h1 q1
 have hk_k : k < (h.bef).length := lt_of_dec h1
 obtain ⟨x, hx_k⟩ := at_ hk_k
 have hxs := hs.bef x (List.mem_of_getElem? hx_k)
 refine ac ?_
 refine Tr.seq (Tr.block (Tr.seq (Tr.regT (tp rfl (ok_indexAddr rfl underlying37 sz32 (vl rfl) (vl rfl) (by omega) (by exact row_at (by assumption))) ?_))))
 refine tp rfl (ok_loadA rfl agg32 sz32 (vl rfl) rfl rfl) ?_
 refine Tl rfl rfl rfl rfl z32 zo32 (fun b3 => ?_)
 refine sf 0 5 ⟨rfl, rfl, rfl⟩ rfl rfl rfl rfl ?_
 refine ao ?_
 refine Tr.pad (Tr.rx ?_)
 refine ax ?_
 refine xo rfl (fun _ => kc1 (w_CopyEz hxs) rfl rfl) (xo rfl (fun _ => ok_buildSlice (xs := [.tmp 20]) (rows := [_]) rfl rfl underlying37 sz32 z32 rfl (by decide) ⟨⟨(by exact rfl), (Va rfl)⟩, trivial⟩ (by decide)) ?_)
 refine Cx.ef 1 rfl rfl (by decide) (eApp rfl rfl rfl rfl underlying37 sz32 by32 z32 (Kb rfl) (Kf rfl) (appR_is (by exact List.Mem.head _) (Ka rfl))) ?_
 refine xo rfl (fun _ => okp_fieldAddr rfl fo82_1 (vl rfl)) (Cx.ef0 2 rfl rfl (ef_storeS rfl rfl rfl (vl rfl) rfl sz37 (by exact Nb rfl)) ?_)
 refine Cx.nil ⟨by kernel_rfl, ?_⟩
 refine FinX.open2 1 2 22 rfl rfl (by decide) rfl (fun v1 => ?_)
 refine FinX.done al4 ?_
 refine ac ?_
 refine Tr.drop 0 (wk5 2 3 11 12 13 rfl ?_)
 refine ac ?_
 refine Fin.reC 1 [str h.ep.name, int h.ep.least, int h.ep.most, ints h.ep.suites, bool h.ep.own, idns h.ep.ids, ints h.ep.anchors, ints h.ep.hashes, bool h.ep.fall, andIs v1 (slice 9 ((h.bef.take (k + 1)).map rowEp))] rfl ⟨Lr, Lr, Lr, Lr, Lr, Lr, Lr, Lr, Lr, own_le (snocM (f := rowEp) hx_k), trivial⟩ (Fin.famV1 (k + 1) v1 (⟨hk_k, by omega⟩) ⟨⟨_, rfl, int_succ k⟩, ke rfl, ke rfl, ke rfl, ke rfl, trivial⟩ (fun _ _ h => h))
 have he_k : k = (h.bef).length := by have := ge_of_dec h1; omega
 subst he_k
 refine ac ?_
 refine ao ?_
 refine TO.store_all 2 rfl rfl rfl (vl rfl) (Va rfl) rfl sz82 rfl rfl ?_
 refine ao ?_
 refine Tr.ret (Fin.retX1 rfl (RVal.cell 2 rfl rfl agg82 sz82 rfl (Lr)) ?_)
 · exact agg_le ⟨Lr, Lr, Lr, Lr, Lr, Lr, Lr, Lr, Lr, Pr.le_trans (andIs_le _ _) (Pr.le_of_eq (by rw [List.take_length])), trivial⟩
theorem w_HNew {e : Ept} (hf : e.fits) (hsm : e.small) : Fun prog 49 [agg (rowEp e)] (tup [agg (rowH (if eptB e = true then ⟨e, []⟩ else zeroH)), int (if eptB e = true then 0 else 19)]) := by
 refine fo func49 rfl ⟨rfl, rfl⟩ fun M0 w0 => (Tr.seq (Tr.regT (tp rfl (ok_box rfl (Va rfl)) ?_)))
 refine Tl rfl rfl rfl rfl z82 zo82 (fun b1 => ?_)
 refine ap ?_
 refine ac ?_
 refine co rfl (kc1 (w_ECheck hf) rfl rfl) ?_
 refine an ?_ ?_ <;> intro h1 q1
 have hne : ¬ eptB e = true := by have := q1; cases h_ : eptB e <;> simp_all
 refine ap ?_
 refine Tr.ret (Fin.then_ret (Fin.retX2 rfl (RVal.cell 0 rfl rfl agg82 sz82 rfl (Lr)) (RVal.tmp rfl (Lr)) ?_))
 refine tup_le ⟨?_, ?_, trivial⟩
 · rw [if_neg hne]; exact agg_le ⟨Lr, Lr, Lr, nil_slice 1, Lr, nil_slice 4, nil_slice 1, nil_slice 1, Lr, nil_slice 9, trivial⟩
 · exact int_eq (by rw [if_neg hne])
 have hce : eptB e = true := by have := q1; cases h_ : eptB e <;> simp_all
 refine ac ?_
 refine ap ?_
 refine tp rfl (ok_call rfl (w_HCopy (h := ⟨e, []⟩) ⟨hsm, by show 0 ≤ _; omega, fun x hx => by cases hx⟩) ⟨⟨_, rfl, agg_le ⟨Lr, Lr, Lr, Lr, Lr, Lr, Lr, Lr, Lr, nil_slice 9, trivial⟩⟩, trivial⟩) ?_
 refine ap ?_
 refine Tr.ret (Fin.retX2 rfl (RVal.cell 0 rfl rfl agg82 sz82 rfl (Lr)) (RVal.tmp rfl (Lr)) ?_)
 refine tup_le ⟨?_, ?_, trivial⟩
 · rw [if_pos hce]; exact Lr
 · exact int_eq (by rw [if_pos hce])
theorem w_fValid {n : Int}  : Fun prog 106 [int n] (bool (decide (0 ≤ n ∧ n ≤ 3))) := by
 refine fo func106 rfl ⟨rfl, rfl⟩ fun M0 w0 => ?_
 refine ac ?_
 refine ac ?_
 refine Ch.cs 5 rfl ?_ ?_ <;> intro h1 q1
 refine ac ?_
 refine ac ?_
 · refine bool_eq ?_; rw [Bool.eq_iff_iff]; simp_all
 refine ac ?_
 refine ac ?_
 · refine bool_eq ?_; rw [Bool.eq_iff_iff]; simp_all; omega
theorem w_fDone {n : Int}  : Fun prog 107 [int n] (bool (decide (n = 0 ∨ n = 2))) := by
 refine fo func107 rfl ⟨rfl, rfl⟩ fun M0 w0 => ?_
 · repeat' first | (refine bool_eq ?_; rw [Bool.eq_iff_iff]; simp_all) | refine ac ?_ | (refine Ch.cg rfl rfl rfl ?_ ?_ <;> intro h q)
theorem w_fSays {n : Int}  : Fun prog 108 [int n] (bool (decide (n = 0 ∨ n = 3))) := by
 refine fo func108 rfl ⟨rfl, rfl⟩ fun M0 w0 => ?_
 · repeat' first | (refine bool_eq ?_; rw [Bool.eq_iff_iff]; simp_all) | refine ac ?_ | (refine Ch.cg rfl rfl rfl ?_ ?_ <;> intro h q)
theorem w_HSame {a b : Hst}  : Fun prog 60 [agg (rowH a), agg (rowH b)] (bool (decide (a = b))) := by
 refine fo func60 rfl ⟨rfl, rfl⟩ fun M0 w0 => ?_
 refine a2 ?_
 refine co rfl (kc2 (w_ESame (a := a.ep) (b := b.ep)) rfl rfl rfl) ?_
 refine cm rfl ?_
 · repeat' first | (refine bool_eq ?_; cases a; cases b; simp_all) | refine cy h rfl (ok_call rfl (w_EqFE (a := a.bef) (b := b.bef)) ⟨ke rfl, ke rfl, ⟨_, rfl, fn_le_clo (dom := fun p : Ept × Ept => [agg (rowEp p.1), agg (rowEp p.2)]) (res := fun p => bool (decide (p.1 = p.2))) e_ESame (fun p => w_ESame (a := p.1) (b := p.2))⟩, trivial⟩) ?_ | refine ac ?_ | (refine Ch.cg rfl rfl rfl ?_ ?_ <;> intro h q)
theorem w_HBack {h : Hst} (hs : h.small) : Fun prog 53 [agg (rowH h)] (tup [agg (rowH (backH h).1), int (backH h).2]) := by
 refine fo func53 rfl ⟨rfl, rfl⟩ fun M0 w0 => (Tr.seq (Tr.regT (tp rfl (ok_box rfl (Va rfl)) ?_)))
 refine Tl rfl rfl rfl rfl z82 zo82 (fun b1 => ?_)
 refine ap ?_
 refine ap ?_
 refine tp rfl (kc1 (w_HCopy hs) rfl rfl) ?_
 refine Tl rfl rfl rfl rfl z82 zo82 (fun b2 => ?_)
 refine ap ?_
 refine a2 ?_
 refine wk4 2 4 5 12 rfl ?_
 refine Tr.cn rfl ?_ ?_ <;> intro h1 q1
 have hz : h.bef = [] := List.eq_nil_of_length_eq_zero (by have := q1; omega)
 have hb : backH h = (h, 4) := by unfold backH; rw [hz]; rfl
 refine ap ?_
 refine Tr.drop 0 (Tr.ret (Fin.then_ret (Fin.retX2 rfl (RVal.cell 0 rfl rfl agg82 sz82 rfl (Lr)) (RVal.tmp rfl (Lr)) ?_)))
 refine tup_le ⟨?_, ?_, trivial⟩
 · rw [hb]; exact Lr
 · exact int_eq (by rw [hb])
 obtain ⟨x, hx⟩ := at_ (l := h.bef) (k := h.bef.length - 1) (by have := q1; omega)
 have hb := backH_at hx
 have hlt := lt_of_at hx
 have hl := hs.len
 refine ac ?_
 refine Tr.seq (Tr.rx ?_)
 refine ay ?_
 refine xo rfl (fun _ => ok_indexAddr rfl underlying37 sz32 (vl rfl) (vl rfl) (by omega) (row_atI (f := rowEp) (by rw [show (((h.bef.length : Nat) : Int) - 1).toNat = h.bef.length - 1 by omega]; exact hx))) ?_
 refine ay ?_
 refine xo rfl (fun _ => ok_sliceTo rfl underlying37 sz32 (vl rfl) (vl rfl) (by omega) (by simp; omega)) ?_
 refine ay ?_
 refine Cx.nil ⟨by kernel_rfl, ?_⟩
 refine FinX.done al2 (Fin.go (wk2 2 4 rfl ?_))
 refine ap ?_
 refine Tr.drop 0 (Tr.ret (Fin.retX2 rfl (RVal.cell 0 rfl rfl agg82 sz82 rfl (Lr)) (RVal.tmp rfl (Lr)) ?_))
 refine tup_le ⟨?_, ?_, trivial⟩
 · rw [hb]; exact agg_le ⟨Lr, Lr, Lr, Lr, Lr, Lr, Lr, Lr, Lr, Pr.le_of_eq (by show _ = slice 9 ((h.bef.take (h.bef.length - 1)).map rowEp); rw [List.map_take, show (((h.bef.length : Nat) : Int) - 1).toNat = h.bef.length - 1 by omega]), trivial⟩
 · exact int_eq (by rw [hb])
theorem w_HCopyV {h : Hst} (hs : h.small) : FunV prog 103 [agg (rowH h)] (fun x => agg [str h.ep.name, int h.ep.least, int h.ep.most, ints h.ep.suites, bool h.ep.own, idns h.ep.ids, ints h.ep.anchors, ints h.ep.hashes, bool h.ep.fall, andIs x (slice 9 (h.bef.map rowEp))]) (fun x => [appRes 32 9 x]) := by
 refine FunV.of func103 rfl rfl (by exact Nb rfl) fun M0 w0 S rs M1 w1 => ?_
 have hl := hs.len
 refine Tr.seq (Tr.regT (tp rfl (ok_box rfl (Va rfl)) ?_))
 refine Tl rfl rfl rfl rfl z82 zo82 (fun b1 => ?_)
 refine ao ?_
 refine ao ?_
 refine tp rfl (kc1 (w_CopyEz hs.ep) rfl rfl) (tp rfl (oD) ?_)
 refine Tl rfl rfl rfl rfl z82 zo82 (fun b2 => ?_)
 refine TO.store_all 0 rfl rfl rfl (vl rfl) (Va rfl) rfl sz82 rfl rfl ?_
 refine ao ?_
 refine ac ?_
 refine Tr.block (Tr.reC 0 [str h.ep.name, int h.ep.least, int h.ep.most, ints h.ep.suites, bool h.ep.own, idns h.ep.ids, ints h.ep.anchors, ints h.ep.hashes, bool h.ep.fall, andIs (.slice none 0 0) (slice 9 ((h.bef.take 0).map rowEp))] rfl ⟨Lr, Lr, Lr, Lr, Lr, Lr, Lr, Lr, Lr, own_nil rfl, trivial⟩ (Tr.addnil 32 9 (Tr.loopV1 [(2, _), (3, _), (11, _), (12, _)] ⟨ke rfl, ke rfl, ke rfl, ke rfl, trivial⟩ (fun k v => [(13, int ((k : Nat) : Int))]) (fun k v => Hp M0 w0 S (appRes 32 9 v :: cellsRes true b2 82 [str h.ep.name, int h.ep.least, int h.ep.most, ints h.ep.suites, bool h.ep.own, idns h.ep.ids, ints h.ep.anchors, ints h.ep.hashes, bool h.ep.fall, andIs v (slice 9 ((h.bef.take k).map rowEp))] :: cellsRes true b1 82 (([.string (ByteArray.mk #[]), .int .i64 0, .int .i64 0, .slice none 0 0, .bool false, .slice none 0 0, .slice none 0 0, .slice none 0 0, .bool false, .slice none 0 0] : List Value).map is) :: extRes M1 w1 :: rs)) (fun k : Nat => k ≤ (h.bef).length) (fun k : Nat => (h.bef).length - k) 0 (.slice none 0 0) (Nat.zero_le _) ⟨ke rfl, trivial⟩ (fun _ _ h => h) ?_)))
 rintro k v hle_k
 refine ac ?_
 refine Tr.seq ?_
 refine Tr.cn rfl ?_ ?_ <;> intro h1 q1
 have hk_k : k < (h.bef).length := lt_of_dec h1
 obtain ⟨x, hx_k⟩ := at_ hk_k
 have hxs := hs.bef x (List.mem_of_getElem? hx_k)
 refine ac ?_
 refine Tr.seq (Tr.block (Tr.seq (Tr.regT (tp rfl (ok_indexAddr rfl underlying37 sz32 (vl rfl) (vl rfl) (by omega) (by exact row_at (by assumption))) ?_))))
 refine tp rfl (ok_loadA rfl agg32 sz32 (vl rfl) rfl rfl) ?_
 refine Tl rfl rfl rfl rfl z32 zo32 (fun b3 => ?_)
 refine sf 0 5 ⟨rfl, rfl, rfl⟩ rfl rfl rfl rfl ?_
 refine ao ?_
 refine Tr.pad (Tr.rx ?_)
 refine ax ?_
 refine xo rfl (fun _ => kc1 (w_CopyEz hxs) rfl rfl) (xo rfl (fun _ => ok_buildSlice (xs := [.tmp 20]) (rows := [_]) rfl rfl underlying37 sz32 z32 rfl (by decide) ⟨⟨(by exact rfl), (Va rfl)⟩, trivial⟩ (by decide)) ?_)
 refine Cx.ef 1 rfl rfl (by decide) (eApp rfl rfl rfl rfl underlying37 sz32 by32 z32 (Kb rfl) (Kf rfl) (appR_is (by exact List.Mem.head _) (Ka rfl))) ?_
 refine xo rfl (fun _ => okp_fieldAddr rfl fo82_1 (vl rfl)) (Cx.ef0 2 rfl rfl (ef_storeS rfl rfl rfl (vl rfl) rfl sz37 (by exact Nb rfl)) ?_)
 refine Cx.nil ⟨by kernel_rfl, ?_⟩
 refine FinX.open2 1 2 22 rfl rfl (by decide) rfl (fun v1 => ?_)
 refine FinX.done al5 ?_
 refine ac ?_
 refine Tr.drop 0 (wk5 2 3 11 12 13 rfl ?_)
 refine ac ?_
 refine Fin.reC 1 [str h.ep.name, int h.ep.least, int h.ep.most, ints h.ep.suites, bool h.ep.own, idns h.ep.ids, ints h.ep.anchors, ints h.ep.hashes, bool h.ep.fall, andIs v1 (slice 9 ((h.bef.take (k + 1)).map rowEp))] rfl ⟨Lr, Lr, Lr, Lr, Lr, Lr, Lr, Lr, Lr, own_le (snocM (f := rowEp) hx_k), trivial⟩ (Fin.famV1 (k + 1) v1 (⟨hk_k, by omega⟩) ⟨⟨_, rfl, int_succ k⟩, ke rfl, ke rfl, ke rfl, ke rfl, trivial⟩ (fun _ _ h => h))
 have he_k : k = (h.bef).length := by have := ge_of_dec h1; omega
 subst he_k
 refine ac ?_
 refine ao ?_
 refine TO.store_all 2 rfl rfl rfl (vl rfl) (Va rfl) rfl sz82 rfl rfl ?_
 refine ao ?_
 refine Tr.ret (Fin.drop 1 (Fin.swap01 (Fin.retV v [_] rfl (RVal.cell 0 rfl rfl agg82 sz82 rfl (Lr)) ?_ (List.Perm.refl _))))
 · exact agg_le ⟨Lr, Lr, Lr, Lr, Lr, Lr, Lr, Lr, Lr, andIs_mono (Pr.le_of_eq (by rw [List.take_length])), trivial⟩
theorem w_HTry {h : Hst} {to_ : Ept} {k : Int} (hs : h.small) (hsl : h.bef.length ≤ 900000) (hf : to_.fits) (hsm : to_.small) : Fun prog 57 [agg (rowH h), agg (rowEp to_), int k] (tup [agg (rowH (tryH h to_ k).1), bool (tryH h to_ k).2.1, int (tryH h to_ k).2.2]) := by
 refine fo func57 rfl ⟨rfl, rfl⟩ fun M0 w0 => (Tr.seq (Tr.regT (tp rfl (ok_box rfl (Va rfl)) (tp rfl (ok_box rfl (Va rfl)) ?_))))
 refine Tl rfl rfl rfl rfl z82 zo82 (fun b1 => ?_)
 refine ap ?_
 refine ap ?_
 refine TO.callV rfl rfl (by decide) rfl (w_HCopyV hs) ⟨ke rfl, trivial⟩ (fun v1 => ?_)
 refine tm rfl ?_
 refine Tl rfl rfl rfl rfl z82 zo82 (fun b2 => ?_)
 refine ap ?_
 refine ac ?_
 refine co rfl (kc1 (w_ECheck hf) rfl rfl) ?_
 refine ac ?_
 refine wk6 3 4 6 9 10 16 rfl ?_
 refine Tr.cn rfl ?_ ?_ <;> intro h1 q1
 have hb : tryH h to_ k = (h, false, 19) := if_pos (by have := q1; cases h_ : eptB to_ <;> simp_all)
 refine ap ?_
 refine Tr.drop 0 (Tr.ret (Fin.block_ret (Fin.then_ret (Fin.retX3 rfl (RVal.cell 1 rfl rfl agg82 sz82 rfl (Lr)) (RVal.tmp rfl (Lr)) (RVal.tmp rfl (Lr)) ?_))))
 refine tup_le ⟨?_, ?_, ?_, trivial⟩
 · rw [hb]; exact agg_le ⟨Lr, Lr, Lr, Lr, Lr, Lr, Lr, Lr, Lr, andIs_le _ _, trivial⟩
 · exact bool_eq (by rw [hb])
 · exact int_eq (by rw [hb])
 have hce : eptB to_ = true := by have := q1; cases h_ : eptB to_ <;> simp_all
 refine ac ?_
 refine Tr.cn rfl ?_ ?_ <;> intro h2 q2
 have hb : tryH h to_ k = (h, false, 14) := by unfold tryH; rw [if_neg (by rw [hce]; decide), if_pos q2]
 refine ap ?_
 refine Tr.drop 0 (wk3 6 7 8 rfl (Tr.ret (Fin.block_ret (Fin.then_ret (Fin.retX3 rfl (RVal.cell 1 rfl rfl agg82 sz82 rfl (Lr)) (RVal.tmp rfl (Lr)) (RVal.tmp rfl (Lr)) ?_)))))
 refine tup_le ⟨?_, ?_, ?_, trivial⟩
 · rw [hb]; exact agg_le ⟨Lr, Lr, Lr, Lr, Lr, Lr, Lr, Lr, Lr, andIs_le _ _, trivial⟩
 · exact bool_eq (by rw [hb])
 · exact int_eq (by rw [hb])
 refine ac ?_
 refine co rfl (kc1 (w_fValid) rfl rfl) ?_
 refine ac ?_
 refine wk5 4 6 9 10 29 rfl ?_
 refine Tr.cn rfl ?_ ?_ <;> intro h3 q3
 have hb : tryH h to_ k = (h, false, 2) := by unfold tryH; rw [if_neg (by rw [hce]; decide), if_neg (fun hh => hh q2), if_pos (by have := q3; simpa using this)]
 refine ap ?_
 refine Tr.drop 0 (Tr.ret (Fin.block_ret (Fin.then_ret (Fin.retX3 rfl (RVal.cell 1 rfl rfl agg82 sz82 rfl (Lr)) (RVal.tmp rfl (Lr)) (RVal.tmp rfl (Lr)) ?_))))
 refine tup_le ⟨?_, ?_, ?_, trivial⟩
 · rw [hb]; exact agg_le ⟨Lr, Lr, Lr, Lr, Lr, Lr, Lr, Lr, Lr, andIs_le _ _, trivial⟩
 · exact bool_eq (by rw [hb])
 · exact int_eq (by rw [hb])
 refine ac ?_
 refine ac ?_
 refine ac ?_
 refine co rfl (ok_callf rfl (vl rfl) (show Fun _ _ ([int k] ++ []) _ from w_fDone) ⟨ke rfl, trivial⟩) ?_
 refine ac ?_
 refine Tr.cn rfl ?_ ?_ <;> intro h4 q4
 have hb : tryH h to_ k = (⟨to_, lastN 24 (h.bef ++ [h.ep])⟩, decide (k = 0 ∨ k = 3), 0) := by unfold tryH; rw [if_neg (by rw [hce]; decide), if_neg (fun hh => hh q2), if_neg (by have := q3; simpa using this), if_pos (by have := q4; simpa using this)]
 refine ap ?_
 refine TO.efs 1 rfl rfl (by decide) (eApp rfl rfl rfl rfl underlying37 sz32 by32 z32 (Kb rfl) (Kf rfl) (appR_is (by exact List.Mem.head _) (Ka rfl))) (fun v2 => ?_)
 refine ap ?_
 refine wk5 4 6 9 10 12 rfl (Tr.seq ?_)
 have hll : (h.bef ++ [h.ep]).length = h.bef.length + 1 := by simp
 refine Tr.reC 0 [str h.ep.name, int h.ep.least, int h.ep.most, ints h.ep.suites, bool h.ep.own, idns h.ep.ids, ints h.ep.anchors, ints h.ep.hashes, bool h.ep.fall, andIs v2 (slice 9 ((h.bef ++ [h.ep]).map rowEp))] rfl ⟨Lr, Lr, Lr, Lr, Lr, Lr, Lr, Lr, Lr, andIs_mono (Pr.le_of_eq (by rw [List.map_append]; rfl)), trivial⟩ ?_
 refine ap ?_
 refine tp rfl (ok_lenm rfl underlying37 (Kb rfl)) ?_
 refine tp rfl (ok_sub rfl (vl rfl) (vl rfl) ?hin) ?_; case hin => unfold InI; omega
 refine tp rfl (ok_max rfl (vl rfl) (vl rfl)) ?_
 refine tp rfl (ok_sliceFrom rfl underlying37 sz32 (Kb rfl) (vl rfl) (by omega) (by simp; omega)) ?_
 refine ap ?_
 refine Tr.drop 1 (wk5 4 6 9 10 12 rfl ?_)
 refine ap ?_
 refine tp rfl (ok_call rfl (w_HCopy (h := ⟨to_, []⟩) ⟨hsm, by show 0 ≤ _; omega, fun x hx => by cases hx⟩) ⟨⟨_, rfl, agg_le ⟨Lr, Lr, Lr, Lr, Lr, Lr, Lr, Lr, Lr, nil_slice 9, trivial⟩⟩, trivial⟩) ?_
 refine tp rfl (ok_fieldG (k := 0) rfl (by kernel_rfl) agg32 sz32 (vl rfl) rfl) ?_
 refine ap ?_
 refine Tr.seq (Tr.rx ?_)
 refine ay ?_
 refine xo rfl (fun _ => ok_callf rfl (vl rfl) (show Fun _ _ ([int k] ++ []) _ from w_fSays) ⟨ke rfl, trivial⟩) ?_
 refine ay ?_
 refine Cx.nil ⟨by kernel_rfl, ?_⟩
 refine FinX.done al2 (Fin.go (Tr.drop 0 (wk3 6 7 8 rfl (Tr.ret (Fin.retX3 rfl (RVal.cell 0 rfl rfl agg82 sz82 rfl (Lr)) (RVal.tmp rfl (Lr)) (RVal.tmp rfl (Lr)) ?_)))))
 refine tup_le ⟨?_, ?_, ?_, trivial⟩
 · rw [hb]; exact agg_le ⟨Lr, Lr, Lr, Lr, Lr, Lr, Lr, Lr, Lr, Pr.le_of_eq (by show _ = slice 9 ((lastN 24 (h.bef ++ [h.ep])).map rowEp); unfold lastN; rw [List.map_drop]; congr 2; omega), trivial⟩
 · exact bool_eq (by rw [hb])
 · exact int_eq (by rw [hb])
 have hb : tryH h to_ k = (h, decide (k = 0 ∨ k = 3), 0) := by unfold tryH; rw [if_neg (by rw [hce]; decide), if_neg (fun hh => hh q2), if_neg (by have := q3; simpa using this), if_neg (by have := q4; simpa using this)]
 refine ac ?_
 refine Tr.seq (Tr.rx ?_)
 refine ay ?_
 refine xo rfl (fun _ => ok_callf rfl (vl rfl) (show Fun _ _ ([int k] ++ []) _ from w_fSays) ⟨ke rfl, trivial⟩) ?_
 refine ay ?_
 refine Cx.nil ⟨by kernel_rfl, ?_⟩
 refine FinX.done al3 (Fin.go (Tr.drop 0 (wk3 6 7 8 rfl (Tr.ret (Fin.retX3 rfl (RVal.cell 1 rfl rfl agg82 sz82 rfl (Lr)) (RVal.tmp rfl (Lr)) (RVal.tmp rfl (Lr)) ?_)))))
 refine tup_le ⟨?_, ?_, ?_, trivial⟩
 · rw [hb]; exact agg_le ⟨Lr, Lr, Lr, Lr, Lr, Lr, Lr, Lr, Lr, andIs_le _ _, trivial⟩
 · exact bool_eq (by rw [hb])
 · exact int_eq (by rw [hb])
theorem hs0 {e : Ept} (h : e.small) : (⟨e, []⟩ : Hst).small := ⟨h, by show 0 ≤ _; omega, fun x hx => by cases hx⟩
theorem w_HNewY {e : Ept} (hf : e.fits) (hsm : e.small) (hce : eptB e = true) : Fun Tryz.prog 49 [agg (rowEp e)] (tup [agg (rowH ⟨e, []⟩), int 0]) := by
 have := w_HNew hf hsm; rw [if_pos hce, if_pos hce] at this; exact this
theorem w_HNewN {e : Ept} (hf : e.fits) (hsm : e.small) (hce : eptB e = false) : Fun Tryz.prog 49 [agg (rowEp e)] (tup [agg (rowH zeroH), int 19]) := by
 have := w_HNew hf hsm; rw [if_neg (by rw [hce]; decide), if_neg (by rw [hce]; decide)] at this; exact this
theorem ep0_fits : zeroEp.fits := ⟨by show 0 ≤ _; omega, fun x hx => by cases hx⟩
theorem ep0_small : zeroEp.small := ⟨by show 0 ≤ _; omega, by show 0 ≤ _; omega, by show 0 ≤ _; omega, by show 0 ≤ _; omega, fun x hx => by cases hx⟩
abbrev eH : Ept := ⟨[97, 112, 112], 1, 3, [], false, [], [], [], false⟩
theorem eH_fits : eH.fits := ⟨by show 3 ≤ maxLen; unfold maxLen; omega, fun x hx => by cases hx⟩
theorem eH_small : eH.small := ⟨by show 0 ≤ _; omega, by show 0 ≤ _; omega, by show 0 ≤ _; omega, by show 0 ≤ _; omega, fun x hx => by cases hx⟩
theorem eH_ok : eptB eH = true := by decide
theorem w_HBack0 {e : Ept} (h : e.small) : Fun Tryz.prog 53 [agg (rowH ⟨e, []⟩)] (tup [agg (rowH ⟨e, []⟩), int 4]) := w_HBack (hs0 h)

theorem w_awake36   : Fun prog 48 [] (bool true) := by
 refine fo func48 rfl ⟨rfl, rfl⟩ fun M0 w0 => ?_
 refine ac ?_
 refine ao ?_
 refine tp rfl (ok_call rfl (w_HNewN ep0_fits ep0_small (by decide)) ⟨⟨_, rfl, agg_le ⟨Lr, Lr, Lr, nil_slice 1, Lr, nil_slice 4, nil_slice 1, nil_slice 1, Lr, trivial⟩⟩, trivial⟩) ?_
 refine ao ?_
 refine Tl rfl rfl rfl rfl z82 zo82 (fun b1 => ?_)
 refine sf 0 1 ⟨rfl, rfl, rfl⟩ rfl rfl rfl rfl ?_
 refine ao ?_
 refine ao ?_
 refine tp rfl (ok_call rfl (w_HNewY eH_fits eH_small eH_ok) ⟨⟨_, rfl, agg_le ⟨Lr, Lr, Lr, nil_slice 1, Lr, nil_slice 4, nil_slice 1, nil_slice 1, Lr, trivial⟩⟩, trivial⟩) ?_
 refine ao ?_
 refine Tl rfl rfl rfl rfl z82 zo82 (fun b2 => ?_)
 refine sf 0 3 ⟨rfl, rfl, rfl⟩ rfl rfl rfl rfl ?_
 refine ao ?_
 refine wk3 2 3 4 rfl ?_
 refine ao ?_
 refine tp rfl (kc1 (w_HBack0 eH_small) rfl rfl) ?_
 refine ao ?_
 refine Tl rfl rfl rfl rfl z82 zo82 (fun b3 => ?_)
 refine sf 0 5 ⟨rfl, rfl, rfl⟩ rfl rfl rfl rfl ?_
 refine ao ?_
 · repeat' first | exact Lr | exact absurd h (by decide) | refine ac ?_ | (refine Ch.cg rfl rfl rfl ?_ ?_ <;> intro h q)
end Go.Proofs.YtppeeogffbpcbaaGreat
