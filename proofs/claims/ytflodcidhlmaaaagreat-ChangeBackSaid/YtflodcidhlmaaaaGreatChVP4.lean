/-
  Part 4 of the texts that prove this claim, merged.
-/
import Derived.Test.YtflodcidhlmaaaaGreatChVP3
set_option linter.all false
namespace Go.Proofs.YtflodcidhlmaaaaGreat
open Go Go.RowKit Cp
theorem len_pos' {β γ : Type} {f : β → γ} {l : List β} (h : l ≠ []) : 0 < (l.map f).length := by rw [List.length_map]; exact List.length_pos_iff.2 h
set_option maxRecDepth 20000 in
theorem w_CloneNi {l : List (Int)} (h0 : l ≠ []) (hl : l.length ≤ 1000000) : FunM Tryz.prog 136 [slice 1 (l.map (fun n : Int => [int n]))] (lens (l.map (fun n : Int => [int n])).length) (noRes) (fun v => mutRes 3 1 (l.map (fun n : Int => [int n])) v) := by
 refine FunM.of Tryz.func136 rfl rfl (by exact Nat.le_of_ble_eq_true rfl) fun M0 w0 S rs M1 w1 => ?_
 have hpos := len_pos' (f := (fun n : Int => [int n])) h0
 refine Tr.seq (Tr.reg0 (cm rfl (Ch.nil (Fin.go (Tr.seq (Tr.seq (Tr.reg0 (cm rfl (co rfl (ok_eqnil rfl Tryz.underlying22 (vl rfl)) (Ch.nil (Fin.go (Tr.ex 4 rfl (fun z1 => Tr.fact 4 rfl fun hz1 => ?_)))))))))))))
 refine Tr.cn rfl ?_ ?_ <;> intro h1 q1
 exfalso; have := hz1 h1; simp_all
 refine Tr.skip (Fin.go (Tr.seq (Tr.regT (tp rfl (ok_buildSlice (xs := []) (rows := []) rfl rfl Tryz.underlying22 sz3 z3 rfl (by decide) trivial (by decide)) (tm rfl (TO.pad ?_))))))
 refine TO.efs 0 rfl rfl (by decide) (ef_appvoid rfl rfl (by decide) rfl Tryz.underlying22 sz3 by3 z3 rfl (by decide) (by decide) (vl rfl) (vl rfl) hpos (by rw [List.length_map]; unfold maxLen; omega) (by rw [List.length_map]; omega)) (fun v1 => ?_)
 refine tm rfl (TO.nil (Fin.go (Tr.ret (Fin.drop 1 ?_))))
 refine Fin.retM1 rfl rfl ?_ (by intro _ _ _ h; rw [h.1])
 · exact andIs_le _ _
set_option maxRecDepth 20000 in
theorem w_CloneEi   : Fun Tryz.prog 136 [slice 1 []] (full 1 []) := by
 refine Fun.of Tryz.func136 rfl rfl (by exact Nat.le_of_ble_eq_true rfl) fun M0 w0 => ?_
 refine Tr.seq (Tr.reg0 (cm rfl (Ch.nil (Fin.go (Tr.seq (Tr.seq (Tr.reg0 (cm rfl (co rfl (ok_eqnil rfl Tryz.underlying22 (vl rfl)) (Ch.nil (Fin.go (Tr.ex 4 rfl (fun z1 => Tr.fact 4 rfl fun hz1 => ?_)))))))))))))
 refine Tr.cn rfl ?_ ?_ <;> intro h1 q1
 refine Tr.seq (Tr.reg0 (cm rfl (Ch.nil (Fin.go (Tr.ret (Fin.then_ret (Fin.ret1 rfl (OutW.bse _ _) rfl ?_)))))))
 · exact nil_full 1
 refine Tr.skip (Fin.go (Tr.seq (Tr.reg0 (co rfl (ok_buildSlice (xs := []) (rows := []) rfl rfl Tryz.underlying22 sz3 z3 rfl (by decide) trivial (by decide)) (cm rfl (co rfl (ok_appEE rfl Tryz.underlying22 sz3 (vl rfl) (vl rfl)) (cm rfl (Ch.nil (Fin.go (Tr.ret (Fin.ret1 rfl (OutW.bse _ _) rfl ?_)))))))))))
 · exact Pr.le_refl _
theorem w_CloneFi {l : List (Int)} (hl : l.length ≤ 1000000) : Fun Tryz.prog 136 [slice 1 (l.map (fun n : Int => [int n]))] (slice 1 (l.map (fun n : Int => [int n]))) := by
  by_cases h0 : l = []
  · subst h0; exact Fun.le w_CloneEi (fun _ _ _ h => h) (full_le _ _)
  · exact (FunM.frzN (rows := (l.map (fun n : Int => [int n]))) (map_rows fun _ => rfl) (w_CloneNi h0 hl)).pure
theorem w_CloneWi {l : List (Int)} (hl : l.length ≤ 1000000) : FunM Tryz.prog 136 [slice 1 (l.map (fun n : Int => [int n]))] (lens l.length) noRes (fun v => oweRes 3 1 (l.map (fun n : Int => [int n])) v) := by
  by_cases h0 : l = []
  · subst h0; exact FunM.owe_void w_CloneEi
  · have := FunM.owe_of_mut (by intro h; exact h0 (by simpa using h)) (w_CloneNi h0 hl)
    rwa [List.length_map] at this

set_option maxRecDepth 20000 in
theorem w_CloneNn {l : List (Idn)} (h0 : l ≠ []) (hl : l.length ≤ 1000000) : FunM Tryz.prog 137 [slice 4 (l.map rowId)] (lens (l.map rowId).length) (noRes) (fun v => mutRes 47 4 (l.map rowId) v) := by
 refine FunM.of Tryz.func137 rfl rfl (by exact Nat.le_of_ble_eq_true rfl) fun M0 w0 S rs M1 w1 => ?_
 have hpos := len_pos' (f := rowId) h0
 refine Tr.seq (Tr.reg0 (cm rfl (Ch.nil (Fin.go (Tr.seq (Tr.seq (Tr.reg0 (cm rfl (co rfl (ok_eqnil rfl Tryz.underlying33 (vl rfl)) (Ch.nil (Fin.go (Tr.ex 4 rfl (fun z1 => Tr.fact 4 rfl fun hz1 => ?_)))))))))))))
 refine Tr.cn rfl ?_ ?_ <;> intro h1 q1
 exfalso; have := hz1 h1; simp_all
 refine Tr.skip (Fin.go (Tr.seq (Tr.regT (tp rfl (ok_buildSlice (xs := []) (rows := []) rfl rfl Tryz.underlying33 sz47 z47 rfl (by decide) trivial (by decide)) (tm rfl (TO.pad ?_))))))
 refine TO.efs 0 rfl rfl (by decide) (ef_appvoid rfl rfl (by decide) rfl Tryz.underlying33 sz47 by47 z47 rfl (by decide) (by decide) (vl rfl) (vl rfl) hpos (by rw [List.length_map]; unfold maxLen; omega) (by rw [List.length_map]; omega)) (fun v1 => ?_)
 refine tm rfl (TO.nil (Fin.go (Tr.ret (Fin.drop 1 ?_))))
 refine Fin.retM1 rfl rfl ?_ (by intro _ _ _ h; rw [h.1])
 · exact andIs_le _ _
set_option maxRecDepth 20000 in
theorem w_CloneEn   : Fun Tryz.prog 137 [slice 4 []] (full 4 []) := by
 refine Fun.of Tryz.func137 rfl rfl (by exact Nat.le_of_ble_eq_true rfl) fun M0 w0 => ?_
 refine Tr.seq (Tr.reg0 (cm rfl (Ch.nil (Fin.go (Tr.seq (Tr.seq (Tr.reg0 (cm rfl (co rfl (ok_eqnil rfl Tryz.underlying33 (vl rfl)) (Ch.nil (Fin.go (Tr.ex 4 rfl (fun z1 => Tr.fact 4 rfl fun hz1 => ?_)))))))))))))
 refine Tr.cn rfl ?_ ?_ <;> intro h1 q1
 refine Tr.seq (Tr.reg0 (cm rfl (Ch.nil (Fin.go (Tr.ret (Fin.then_ret (Fin.ret1 rfl (OutW.bse _ _) rfl ?_)))))))
 · exact nil_full 4
 refine Tr.skip (Fin.go (Tr.seq (Tr.reg0 (co rfl (ok_buildSlice (xs := []) (rows := []) rfl rfl Tryz.underlying33 sz47 z47 rfl (by decide) trivial (by decide)) (cm rfl (co rfl (ok_appEE rfl Tryz.underlying33 sz47 (vl rfl) (vl rfl)) (cm rfl (Ch.nil (Fin.go (Tr.ret (Fin.ret1 rfl (OutW.bse _ _) rfl ?_)))))))))))
 · exact Pr.le_refl _
theorem w_CloneWn {l : List (Idn)} (hl : l.length ≤ 1000000) : FunM Tryz.prog 137 [slice 4 (l.map rowId)] (lens l.length) noRes (fun v => oweRes 47 4 (l.map rowId) v) := by
  by_cases h0 : l = []
  · subst h0; exact FunM.owe_void w_CloneEn
  · have := FunM.owe_of_mut (by intro h; exact h0 (by simpa using h)) (w_CloneNn h0 hl)
    rwa [List.length_map] at this

set_option maxRecDepth 20000 in
theorem w_CloneNc {l : List (Crt)} (h0 : l ≠ []) (hl : l.length ≤ 1000000) : FunM Tryz.prog 173 [slice 15 (l.map rowCr)] (lens (l.map rowCr).length) (noRes) (fun v => mutRes 126 15 (l.map rowCr) v) := by
 refine FunM.of Tryz.func173 rfl rfl (by exact Nat.le_of_ble_eq_true rfl) fun M0 w0 S rs M1 w1 => ?_
 have hpos := len_pos' (f := rowCr) h0
 refine Tr.seq (Tr.reg0 (cm rfl (Ch.nil (Fin.go (Tr.seq (Tr.seq (Tr.reg0 (cm rfl (co rfl (ok_eqnil rfl Tryz.underlying45 (vl rfl)) (Ch.nil (Fin.go (Tr.ex 4 rfl (fun z1 => Tr.fact 4 rfl fun hz1 => ?_)))))))))))))
 refine Tr.cn rfl ?_ ?_ <;> intro h1 q1
 exfalso; have := hz1 h1; simp_all
 refine Tr.skip (Fin.go (Tr.seq (Tr.regT (tp rfl (ok_buildSlice (xs := []) (rows := []) rfl rfl Tryz.underlying45 sz126 z126 rfl (by decide) trivial (by decide)) (tm rfl (TO.pad ?_))))))
 refine TO.efs 0 rfl rfl (by decide) (ef_appvoid rfl rfl (by decide) rfl Tryz.underlying45 sz126 by126 z126 rfl (by decide) (by decide) (vl rfl) (vl rfl) hpos (by rw [List.length_map]; unfold maxLen; omega) (by rw [List.length_map]; omega)) (fun v1 => ?_)
 refine tm rfl (TO.nil (Fin.go (Tr.ret (Fin.drop 1 ?_))))
 refine Fin.retM1 rfl rfl ?_ (by intro _ _ _ h; rw [h.1])
 · exact andIs_le _ _
set_option maxRecDepth 20000 in
theorem w_CloneEc   : Fun Tryz.prog 173 [slice 15 []] (full 15 []) := by
 refine Fun.of Tryz.func173 rfl rfl (by exact Nat.le_of_ble_eq_true rfl) fun M0 w0 => ?_
 refine Tr.seq (Tr.reg0 (cm rfl (Ch.nil (Fin.go (Tr.seq (Tr.seq (Tr.reg0 (cm rfl (co rfl (ok_eqnil rfl Tryz.underlying45 (vl rfl)) (Ch.nil (Fin.go (Tr.ex 4 rfl (fun z1 => Tr.fact 4 rfl fun hz1 => ?_)))))))))))))
 refine Tr.cn rfl ?_ ?_ <;> intro h1 q1
 refine Tr.seq (Tr.reg0 (cm rfl (Ch.nil (Fin.go (Tr.ret (Fin.then_ret (Fin.ret1 rfl (OutW.bse _ _) rfl ?_)))))))
 · exact nil_full 15
 refine Tr.skip (Fin.go (Tr.seq (Tr.reg0 (co rfl (ok_buildSlice (xs := []) (rows := []) rfl rfl Tryz.underlying45 sz126 z126 rfl (by decide) trivial (by decide)) (cm rfl (co rfl (ok_appEE rfl Tryz.underlying45 sz126 (vl rfl) (vl rfl)) (cm rfl (Ch.nil (Fin.go (Tr.ret (Fin.ret1 rfl (OutW.bse _ _) rfl ?_)))))))))))
 · exact Pr.le_refl _
theorem w_CloneWc {l : List (Crt)} (hl : l.length ≤ 1000000) : FunM Tryz.prog 173 [slice 15 (l.map rowCr)] (lens l.length) noRes (fun v => oweRes 126 15 (l.map rowCr) v) := by
  by_cases h0 : l = []
  · subst h0; exact FunM.owe_void w_CloneEc
  · have := FunM.owe_of_mut (by intro h; exact h0 (by simpa using h)) (w_CloneNc h0 hl)
    rwa [List.length_map] at this

set_option maxRecDepth 20000 in
theorem w_CloneNs {l : List (List UInt8)} (h0 : l ≠ []) (hl : l.length ≤ 1000000) : FunM Tryz.prog 174 [slice 1 (l.map (fun t : List UInt8 => [str t]))] (lens (l.map (fun t : List UInt8 => [str t])).length) (noRes) (fun v => mutRes 9 1 (l.map (fun t : List UInt8 => [str t])) v) := by
 refine FunM.of Tryz.func174 rfl rfl (by exact Nat.le_of_ble_eq_true rfl) fun M0 w0 S rs M1 w1 => ?_
 have hpos := len_pos' (f := (fun t : List UInt8 => [str t])) h0
 refine Tr.seq (Tr.reg0 (cm rfl (Ch.nil (Fin.go (Tr.seq (Tr.seq (Tr.reg0 (cm rfl (co rfl (ok_eqnil rfl Tryz.underlying83 (vl rfl)) (Ch.nil (Fin.go (Tr.ex 4 rfl (fun z1 => Tr.fact 4 rfl fun hz1 => ?_)))))))))))))
 refine Tr.cn rfl ?_ ?_ <;> intro h1 q1
 exfalso; have := hz1 h1; simp_all
 refine Tr.skip (Fin.go (Tr.seq (Tr.regT (tp rfl (ok_buildSlice (xs := []) (rows := []) rfl rfl Tryz.underlying83 sz9 z9 rfl (by decide) trivial (by decide)) (tm rfl (TO.pad ?_))))))
 refine TO.efs 0 rfl rfl (by decide) (ef_appvoid rfl rfl (by decide) rfl Tryz.underlying83 sz9 by9 z9 rfl (by decide) (by decide) (vl rfl) (vl rfl) hpos (by rw [List.length_map]; unfold maxLen; omega) (by rw [List.length_map]; omega)) (fun v1 => ?_)
 refine tm rfl (TO.nil (Fin.go (Tr.ret (Fin.drop 1 ?_))))
 refine Fin.retM1 rfl rfl ?_ (by intro _ _ _ h; rw [h.1])
 · exact andIs_le _ _
set_option maxRecDepth 20000 in
theorem w_CloneEs   : Fun Tryz.prog 174 [slice 1 []] (full 1 []) := by
 refine Fun.of Tryz.func174 rfl rfl (by exact Nat.le_of_ble_eq_true rfl) fun M0 w0 => ?_
 refine Tr.seq (Tr.reg0 (cm rfl (Ch.nil (Fin.go (Tr.seq (Tr.seq (Tr.reg0 (cm rfl (co rfl (ok_eqnil rfl Tryz.underlying83 (vl rfl)) (Ch.nil (Fin.go (Tr.ex 4 rfl (fun z1 => Tr.fact 4 rfl fun hz1 => ?_)))))))))))))
 refine Tr.cn rfl ?_ ?_ <;> intro h1 q1
 refine Tr.seq (Tr.reg0 (cm rfl (Ch.nil (Fin.go (Tr.ret (Fin.then_ret (Fin.ret1 rfl (OutW.bse _ _) rfl ?_)))))))
 · exact nil_full 1
 refine Tr.skip (Fin.go (Tr.seq (Tr.reg0 (co rfl (ok_buildSlice (xs := []) (rows := []) rfl rfl Tryz.underlying83 sz9 z9 rfl (by decide) trivial (by decide)) (cm rfl (co rfl (ok_appEE rfl Tryz.underlying83 sz9 (vl rfl) (vl rfl)) (cm rfl (Ch.nil (Fin.go (Tr.ret (Fin.ret1 rfl (OutW.bse _ _) rfl ?_)))))))))))
 · exact Pr.le_refl _
theorem w_CloneFs {l : List (List UInt8)} (hl : l.length ≤ 1000000) : Fun Tryz.prog 174 [slice 1 (l.map (fun t : List UInt8 => [str t]))] (slice 1 (l.map (fun t : List UInt8 => [str t]))) := by
  by_cases h0 : l = []
  · subst h0; exact Fun.le w_CloneEs (fun _ _ _ h => h) (full_le _ _)
  · exact (FunM.frzN (rows := (l.map (fun t : List UInt8 => [str t]))) (map_rows fun _ => rfl) (w_CloneNs h0 hl)).pure
set_option maxRecDepth 20000 in
theorem w_IdxN {l : List Idn} {p : Idn → Bool}  : Fun Tryz.prog 226 [idns l, clo Tryz.prog (fun x : Idn => [agg (rowId x)]) (fun x => bool (p x))] (int (idx p l)) := by
 refine Fun.of Tryz.func226 rfl rfl (by exact Nat.le_of_ble_eq_true rfl) fun M0 w0 => ?_
 refine Tr.lenm 0 rfl fun hlm_0 => (Tr.seq (Tr.reg0 (cm rfl (Ch.nil (Fin.go (Tr.seq (Tr.seq (Tr.reg0 (cm rfl (co rfl (ok_lenm rfl Tryz.underlying33 (vl rfl)) (cm rfl (Ch.nil (Fin.go (Tr.block ?_))))))))))))))
 refine Tr.loopw [(0, _), (1, _), (7, _)] (kk3 rfl) (fun k : Nat => [(8, int ((k : Nat) : Int))]) (fun k : Nat => k ≤ (l).length ∧ (∀ j y, j < k → l[j]? = some y → p y = false)) (fun k : Nat => (l).length - k) 0 (⟨Nat.zero_le _, fun j y hj => absurd hj (by omega)⟩) ⟨ke rfl, trivial⟩ ?_
 rintro k ⟨hle_k, hinv_k⟩
 refine Tr.seq (Tr.reg0 (co rfl (ki rfl rfl rfl rfl) (Ch.nil (Fin.go (Tr.seq ?_)))))
 refine Tr.cn rfl ?_ ?_ <;> intro h1 q1
 have hk_k : k < (l).length := lt_of_dec h1
 obtain ⟨x, hx_k⟩ := at_ hk_k
 refine Tr.skip (Fin.go (Tr.seq (Tr.block (Tr.seq (Tr.reg0 (cm rfl (cm rfl (Ch.nil (Fin.go (Tr.seq (Tr.reg0 (cm rfl (cm rfl ?_)))))))))))))
 refine cm rfl (co rfl (ok_indexAddr rfl Tryz.underlying33 sz47 (vl rfl) (vl rfl) (by omega) (by exact row_at (by assumption))) ?_)
 refine co rfl (ok_loadA rfl agg47 sz47 (vl rfl) rfl rfl) (co rfl (ok_callc x rfl (vl rfl) ⟨ke rfl, trivial⟩) (Ch.nil (Fin.go ?_)))
 refine Tr.cn rfl ?_ ?_ <;> intro h2 q2
 refine Tr.seq (Tr.reg0 (cm rfl (cm rfl (Ch.nil (Fin.go (wk1 4 rfl (Tr.ret (Fin.block_ret (Fin.then_ret (Fin.then_ret (Fin.block_ret (Fin.then_ret (Fin.ret1 rfl (OutW.bse _ _) rfl ?_)))))))))))))
 · exact int_eq (idx_found hx_k (by assumption) hinv_k)
 refine Tr.skip (Fin.block (Fin.go (Tr.reg0 (cad rfl rfl rfl rfl (by omega) (cm rfl (Ch.nil (Fin.fam_same (k + 1) ⟨⟨hk_k, step_no hx_k (by assumption) hinv_k⟩, by omega⟩ ⟨⟨_, rfl, int_succ k⟩, ke rfl, ke rfl, ke rfl, trivial⟩)))))))
 have he_k : k = (l).length := by have := ge_of_dec h1; omega
 subst he_k
 refine Tr.exit (Fin.then_exit (Fin.then_exit (Fin.block_here (Fin.go (Tr.seq (Tr.reg0 (cm rfl (Ch.nil (Fin.go (Tr.ret (Fin.ret1 rfl (OutW.bse _ _) rfl ?_)))))))))))
 · exact int_eq (idx_none hinv_k)
set_option maxRecDepth 20000 in
theorem w_HasN {l : List Idn} {p : Idn → Bool}  : Fun Tryz.prog 181 [idns l, clo Tryz.prog (fun x : Idn => [agg (rowId x)]) (fun x => bool (p x))] (bool (l.any p)) := by
 refine Fun.of Tryz.func181 rfl rfl (by exact Nat.le_of_ble_eq_true rfl) fun M0 w0 => ?_
 refine Tr.seq (Tr.reg0 (cm rfl (Ch.nil (Fin.go (Tr.seq (Tr.reg0 (cm rfl (cm rfl (co rfl (ok_call rfl (w_IdxN) ⟨ke rfl, ke rfl, trivial⟩) (co rfl (ki rfl rfl rfl rfl) (cm rfl (Ch.nil (Fin.go (Tr.ret ?_))))))))))))))
 refine Fin.ret1 rfl (OutW.bse _ _) rfl ?_
 · exact bool_eq (idx_any p l)
set_option maxRecDepth 20000 in
set_option maxHeartbeats 1000000 in
theorem w_DelBi {l : List (Int)} {b0 cap i : Nat} {sp : List Value} (hi : i < l.length) (hl : l.length ≤ 1000000) (hc : l.length ≤ cap) (hm : cap ≤ maxLen) (hq : sp.length = (cap - l.length) * 1) : FunM Tryz.prog 177 [andIs (.slice (some ⟨b0, 0, none⟩) l.length cap) (lens l.length), int ((i : Nat) : Int), int (((i : Nat) : Int) + 1)] (lens (l.length - 1)) (cellsRes true b0 3 ((l.map (fun n : Int => [int n])).flatten ++ sp.map is)) (fun v => ownRes 3 1 ((l.eraseIdx i).map (fun n : Int => [int n])) v) := by
 refine FunM.of Tryz.func177 rfl rfl (by exact Nat.le_of_ble_eq_true rfl) fun M0 w0 S rs M1 w1 => ?_
 have hAl : ((l.map (fun n : Int => [int n])).flatten).length = l.length * 1 := by rw [flat_len (sz := 1) (map_rows fun _ => rfl), List.length_map]
 have e1 : (((i : Nat) : Int) + (1 : Int)).toNat = i + 1 := by omega
 have e2 : ((i : Nat) : Int).toNat = i := by omega
 refine Tr.seq (Tr.reg0 (cm rfl (Ch.nil (Fin.go (Tr.seq (Tr.reg0 ?_))))))
 iterate 4 refine cm rfl ?_
 refine co rfl (okb_len rfl Tryz.underlying22 ⟨_, rfl, andIs_is _ _⟩) (co rfl (okb_sliceThree rfl Tryz.underlying22 sz3 ⟨_, rfl, andIs_is _ _⟩ (vl rfl) (vl rfl) (vl rfl) (by omega) (by omega) (by omega) (by omega)) (Ch.nil (Fin.go (Tr.seq (Tr.seq (Tr.reg0 (cm rfl (cm rfl (co rfl (ki rfl rfl rfl rfl) (Ch.nil (Fin.go ?_)))))))))))
 refine Tr.cn rfl ?_ ?_ <;> intro h1 q1
 exfalso; have := q1; omega
 refine Tr.skip (Fin.go (Tr.seq (Tr.reg0 (cm rfl (co rfl (okb_len rfl Tryz.underlying22 ⟨_, rfl, andIs_is _ _⟩) (cm rfl (Ch.nil (Fin.go (Tr.seq (Tr.regOne mixed 6 (by kernel_rfl) (ChOne.op rfl rfl (by decide) (ok_move rfl (vl rfl)) (ChOne.op rfl rfl (by decide) (ok_move rfl (vl rfl)) (ChOne.op rfl rfl (by decide) (okb_sliceTo rfl Tryz.underlying22 sz3 ⟨_, rfl, andIs_is _ _⟩ (vl rfl) (by omega) (by omega) (by omega) (by omega)) ?_)))))))))))))
 refine ChOne.op rfl rfl (by decide) (ok_move rfl (vl rfl)) (ChOne.op rfl rfl (by decide) (ok_move rfl (vl rfl)) (ChOne.op rfl rfl (by decide) (okb_sliceTail rfl Tryz.underlying22 sz3 ⟨_, rfl, andIs_is _ _⟩ (vl rfl) (by omega) (by omega) (by omega)) ?_))
 refine ChOne.turn _ rfl (by decide) (turn_ef 0 rfl (ef_appTail rfl rfl (by decide) rfl Tryz.underlying22 sz3 (vl rfl) (vl rfl) (by omega) (by rw [List.length_append, hAl]; omega) (by rw [List.length_append, hAl]; omega) rfl)) ?_
 refine cm rfl (Ch.nil (Fin.go (wk2 0 7 rfl (Tr.seq (Tr.regT (tm rfl (tm rfl (tp rfl (okb_len rfl Tryz.underlying22 (vl rfl)) (tm rfl (tp rfl (okb_sliceTwo rfl Tryz.underlying22 sz3 (vl rfl) (vl rfl) (vl rfl) (by omega) (by omega) (by omega)) ?_))))))))))
 refine TO.ef0 0 rfl rfl (ef_clear rfl rfl Tryz.underlying22 sz3 z3 rfl (by decide) (by decide) (vl rfl) (by omega) (by simp only [List.length_append, List.length_take, List.length_drop, List.length_map, hAl]; omega) rfl) ?_
 refine TO.nil (Fin.go (Tr.seq (Tr.reg0 (cm rfl (cm rfl (Ch.nil (Fin.go (Tr.ret ?_))))))))
 refine Fin.closeH (sz := 1) 0 rfl (rows := ((l.eraseIdx i).map (fun n : Int => [int n]))) (sp := [.int .i64 0] ++ sp) (m := i + (l.length - (i + 1))) ((del_place (N := l.length * 1) (a := i * 1) (z := 1) (S := sp.map is) hAl (by omega) (by omega) (by omega) (by omega) (by omega) (by omega) (by omega) (B := _) rfl).trans (by rw [List.map_append, ← flat_delN (f := (fun n : Int => [int n])) (sz := 1) (fun _ => rfl), Nat.succ_mul, rep1] <;> omega)) (by rw [List.length_map, List.length_eraseIdx, if_pos hi]; omega) (by omega) hm (by rw [List.length_append, hq]; simp only [List.length_cons, List.length_nil]; omega) ?_
 refine Fin.retM1 rfl rfl ?_ (by rintro _ _ _ rfl; rfl)
 · rintro _ _ _ rfl; exact ⟨_, _, by congr 1; omega⟩
theorem e_DelBi : Entry Tryz.prog 177 := ⟨_, Tryz.func177, rfl, rfl⟩
set_option maxRecDepth 20000 in
set_option maxHeartbeats 1000000 in
theorem w_DelBn {l : List (Idn)} {b0 cap i : Nat} {sp : List Value} (hi : i < l.length) (hl : l.length ≤ 1000000) (hc : l.length ≤ cap) (hm : cap ≤ maxLen) (hq : sp.length = (cap - l.length) * 4) : FunM Tryz.prog 183 [andIs (.slice (some ⟨b0, 0, none⟩) l.length cap) (lens l.length), int ((i : Nat) : Int), int (((i : Nat) : Int) + 1)] (lens (l.length - 1)) (cellsRes true b0 47 ((l.map rowId).flatten ++ sp.map is)) (fun v => ownRes 47 4 ((l.eraseIdx i).map rowId) v) := by
 refine FunM.of Tryz.func183 rfl rfl (by exact Nat.le_of_ble_eq_true rfl) fun M0 w0 S rs M1 w1 => ?_
 have hAl : ((l.map rowId).flatten).length = l.length * 4 := by rw [flat_len (sz := 4) (map_rows fun _ => rfl), List.length_map]
 have e1 : (((i : Nat) : Int) + (1 : Int)).toNat = i + 1 := by omega
 have e2 : ((i : Nat) : Int).toNat = i := by omega
 refine Tr.seq (Tr.reg0 (cm rfl (Ch.nil (Fin.go (Tr.seq (Tr.reg0 ?_))))))
 iterate 4 refine cm rfl ?_
 refine co rfl (okb_len rfl Tryz.underlying33 ⟨_, rfl, andIs_is _ _⟩) (co rfl (okb_sliceThree rfl Tryz.underlying33 sz47 ⟨_, rfl, andIs_is _ _⟩ (vl rfl) (vl rfl) (vl rfl) (by omega) (by omega) (by omega) (by omega)) (Ch.nil (Fin.go (Tr.seq (Tr.seq (Tr.reg0 (cm rfl (cm rfl (co rfl (ki rfl rfl rfl rfl) (Ch.nil (Fin.go ?_)))))))))))
 refine Tr.cn rfl ?_ ?_ <;> intro h1 q1
 exfalso; have := q1; omega
 refine Tr.skip (Fin.go (Tr.seq (Tr.reg0 (cm rfl (co rfl (okb_len rfl Tryz.underlying33 ⟨_, rfl, andIs_is _ _⟩) (cm rfl (Ch.nil (Fin.go (Tr.seq (Tr.regOne mixed 6 (by kernel_rfl) (ChOne.op rfl rfl (by decide) (ok_move rfl (vl rfl)) (ChOne.op rfl rfl (by decide) (ok_move rfl (vl rfl)) (ChOne.op rfl rfl (by decide) (okb_sliceTo rfl Tryz.underlying33 sz47 ⟨_, rfl, andIs_is _ _⟩ (vl rfl) (by omega) (by omega) (by omega) (by omega)) ?_)))))))))))))
 refine ChOne.op rfl rfl (by decide) (ok_move rfl (vl rfl)) (ChOne.op rfl rfl (by decide) (ok_move rfl (vl rfl)) (ChOne.op rfl rfl (by decide) (okb_sliceTail rfl Tryz.underlying33 sz47 ⟨_, rfl, andIs_is _ _⟩ (vl rfl) (by omega) (by omega) (by omega)) ?_))
 refine ChOne.turn _ rfl (by decide) (turn_ef 0 rfl (ef_appTail rfl rfl (by decide) rfl Tryz.underlying33 sz47 (vl rfl) (vl rfl) (by omega) (by rw [List.length_append, hAl]; omega) (by rw [List.length_append, hAl]; omega) rfl)) ?_
 refine cm rfl (Ch.nil (Fin.go (wk2 0 7 rfl (Tr.seq (Tr.regT (tm rfl (tm rfl (tp rfl (okb_len rfl Tryz.underlying33 (vl rfl)) (tm rfl (tp rfl (okb_sliceTwo rfl Tryz.underlying33 sz47 (vl rfl) (vl rfl) (vl rfl) (by omega) (by omega) (by omega)) ?_))))))))))
 refine TO.ef0 0 rfl rfl (ef_clear rfl rfl Tryz.underlying33 sz47 z47 rfl (by decide) (by decide) (vl rfl) (by omega) (by simp only [List.length_append, List.length_take, List.length_drop, List.length_map, hAl]; omega) rfl) ?_
 refine TO.nil (Fin.go (Tr.seq (Tr.reg0 (cm rfl (cm rfl (Ch.nil (Fin.go (Tr.ret ?_))))))))
 refine Fin.closeH (sz := 4) 0 rfl (rows := ((l.eraseIdx i).map rowId)) (sp := [.int .i64 0, .int .i64 0, .int .i64 0, .slice none 0 0] ++ sp) (m := i + (l.length - (i + 1))) ((del_place (N := l.length * 4) (a := i * 4) (z := 4) (S := sp.map is) hAl (by omega) (by omega) (by omega) (by omega) (by omega) (by omega) (by omega) (B := _) rfl).trans (by rw [List.map_append, ← flat_delN (f := rowId) (sz := 4) (fun _ => rfl), Nat.succ_mul, rep1] <;> omega)) (by rw [List.length_map, List.length_eraseIdx, if_pos hi]; omega) (by omega) hm (by rw [List.length_append, hq]; simp only [List.length_cons, List.length_nil]; omega) ?_
 refine Fin.retM1 rfl rfl ?_ (by rintro _ _ _ rfl; rfl)
 · rintro _ _ _ rfl; exact ⟨_, _, by congr 1; omega⟩
theorem e_DelBn : Entry Tryz.prog 183 := ⟨_, Tryz.func183, rfl, rfl⟩
end Go.Proofs.YtflodcidhlmaaaaGreat
namespace Go.Proofs.YtflodcidhlmaaaaGreat
open Go Go.RowKit Cp
set_option maxRecDepth 20000 in
set_option maxHeartbeats 1000000 in
theorem w_InsBi {l : List (Int)} {x : Int} {b0 cap i : Nat} {sp : List Value} (hi : i ≤ l.length) (hl : l.length ≤ 1000000) (hc : l.length ≤ cap) (hm : cap ≤ maxLen) (hq : sp.length = (cap - l.length) * 1) : FunM Tryz.prog 225 [andIs (.slice (some ⟨b0, 0, none⟩) l.length cap) (lens l.length), int ((i : Nat) : Int), slice 1 [[int x]]] (lens (l.length + 1)) (cellsRes true b0 3 ((l.map (fun n : Int => [int n])).flatten ++ sp.map is)) (fun v => ownRes 3 1 ((l.take i ++ [x] ++ l.drop i).map (fun n : Int => [int n])) v) := by
 refine FunM.of Tryz.func225 rfl rfl (by exact Nat.le_of_ble_eq_true rfl) fun M0 w0 S rs M1 w1 => ?_
 have hv2 : ([[int x]] : List (List Pr)).flatten.length = 1 := rfl
 have hv1 : ([[int x]] : List (List Pr)).length = 1 := rfl
 have hAl : ((l.map (fun n : Int => [int n])).flatten).length = l.length * 1 := by rw [flat_len (sz := 1) (map_rows fun _ => rfl), List.length_map]
 have e1 : (((i : Nat) : Int) + (1 : Int)).toNat = i + 1 := by omega
 have e2 : ((i : Nat) : Int).toNat = i := by omega
 refine Tr.seq (Tr.reg0 (cm rfl (Ch.nil (Fin.go (Tr.seq (Tr.reg0 (cm rfl (cm rfl (co rfl (okb_sliceAny rfl Tryz.underlying22 sz3 ⟨_, rfl, andIs_is _ _⟩ (vl rfl) (by omega) (by omega) (by omega)) (Ch.nil (Fin.go (Tr.seq (Tr.reg0 ?_)))))))))))))
 refine cm rfl (co rfl (ok_len rfl Tryz.underlying22 (vl rfl)) (cm rfl (Ch.nil (Fin.go (Tr.seq (Tr.seq (Tr.reg0 (cm rfl (co rfl (ki rfl rfl rfl rfl) (Ch.nil (Fin.go ?_)))))))))))
 refine Tr.cn rfl ?_ ?_ <;> intro h1 q1
 simp at h1
 refine Tr.skip (Fin.go (Tr.seq (Tr.reg0 (cm rfl (co rfl (okb_len rfl Tryz.underlying22 ⟨_, rfl, andIs_is _ _⟩) (cm rfl (Ch.nil (Fin.go (Tr.seq (Tr.seq (Tr.reg0 (cm rfl (cm rfl ?_)))))))))))))
 refine co rfl (ki rfl rfl rfl rfl) (Ch.nil (Fin.go (wk6 0 1 2 7 8 22 rfl ?_)))
 refine Tr.cn rfl ?_ ?_ <;> intro h2 q2
 refine Tr.seq (Tr.closeG (sz := 1) 0 rfl (rows := l.map (fun n : Int => [int n])) (sp := sp) rfl (by simp) hc hm hq (Tr.regT (tm rfl (tm rfl ?_))))
 refine TO.efs 0 rfl rfl (by decide) (ef_appmut rfl rfl (by decide) rfl Tryz.underlying22 sz3 by3 z3 rfl (by decide) (by decide) (vl rfl) (vl rfl) (map_rows fun _ => rfl) (Nat.zero_lt_succ _) (by simp only [List.length_map, List.length_cons, List.length_nil]; unfold maxLen; omega) (by simp only [List.length_map, List.length_cons, List.length_nil]; omega)) (fun v1 => ?_)
 refine tm rfl (TO.nil (Fin.go (Tr.ret (Fin.then_ret ?_))))
 refine Fin.retM1 rfl rfl ?_ (by rintro _ _ _ ⟨rfl, _⟩; rw [show i = l.length by omega, List.take_length, List.drop_length, List.append_nil, List.map_append]; rfl)
 · exact Pr.le_trans (andIs_le _ _) (Pr.le_of_eq (by simp))
 refine Tr.skip (Fin.go (Tr.seq (Tr.seq (Tr.reg0 (cm rfl (cm rfl (cad rfl rfl rfl rfl (by omega) (cm rfl (co rfl (okb_cap rfl Tryz.underlying22 ⟨_, rfl, andIs_is _ _⟩) (co rfl (ki rfl rfl rfl rfl) (Ch.nil (Fin.go ?_))))))))))))
 refine Tr.cn rfl ?_ ?_ <;> intro h3 q3
 refine Tr.seq (Tr.regT (tm rfl (tm rfl (tp rfl (okb_sliceTo rfl Tryz.underlying22 sz3 ⟨_, rfl, andIs_is _ _⟩ (vl rfl) (by omega) (by omega) (by omega) (by omega)) (tm rfl (tm rfl ?_))))))
 refine tp rfl (ok_add rfl (vl rfl) (vl rfl) ?hin) ?_; case hin => unfold InI; omega
 refine tm rfl ?_
 refine tp rfl (ok_sub rfl (vl rfl) (vl rfl) ?hin) ?_; case hin => unfold InI; omega
 refine TO.pad ?_
 refine TO.appzs 0 1 rfl rfl rfl rfl (by decide) rfl Tryz.underlying22 Tryz.underlying3 sz3 by3 z3 rfl (by decide) (by decide) (vl rfl) (vl rfl) (i := i) (k := l.length + 1 - i) (by omega) (by simp only [List.length_append, List.length_take, List.length_drop, List.length_map, hAl, hv1, hv2]; omega) (by omega) (by omega) (by unfold maxLen; omega) (by omega) (fun b1 cap1 sp1 hg1 hm1 hs1 => ?_)
 refine tm rfl (TO.nil (Fin.go (wk5 0 1 2 7 9 rfl (Tr.seq ?_))))
 have hsz : sp1.length = (cap1 - i) * 1 := by have := hs1; rw [List.length_take, List.length_append, hAl] at this; omega
 refine Tr.frzS (sz := 1) (l.map (fun n : Int => [int n])) 1 0 rfl rfl (Pr.le_trans (andIs_is _ _) (Pr.le_of_eq (by simp))) (map_rows fun _ => rfl) (by rw [List.length_map]; exact hc) hm (by rw [List.length_map, List.length_map]; omega) ?_
 refine Tr.regT (tm rfl (tm rfl (tp rfl (okb_sliceFrom rfl Tryz.underlying22 sz3 (vl rfl) (vl rfl) (by omega) (by omega) (by omega)) (tm rfl ?_))))
 refine TO.efc 0 rfl rfl (by decide) (ef_copyS rfl rfl rfl Tryz.underlying22 sz3 (by decide) (vl rfl) (vl rfl) (by omega) (by omega) (by simp only [List.length_append, List.length_take, List.length_drop, List.length_map, hAl, hv1, hv2]; omega) rfl) ?_
 refine TO.nil (Fin.go (Tr.seq (Tr.regX mixed [none, none, none, none, none, none, none, none, some (0, 0, true, 0)] (by kernel_rfl) (xm rfl (xm rfl (xm rfl ?_))))))
 refine xo rfl (fun _ => ok_add rfl (vl rfl) (vl rfl) ?hin) ?_; case hin => unfold InI; omega
 refine xo rfl (fun _ => okb_sliceFrom rfl Tryz.underlying22 sz3 (vl rfl) (vl rfl) (by omega) (by omega) (by omega)) (xm rfl (xm rfl ?_))
 refine xo rfl (fun _ => ok_sliceFrom rfl Tryz.underlying22 sz3 ⟨_, rfl, andIs_le _ _⟩ (vl rfl) (by omega) (by simp; omega)) ?_
 refine Cx.ef 0 rfl rfl (by decide) (ef_copyS rfl rfl rfl Tryz.underlying22 sz3 (by decide) (vl rfl) (vl rfl) (by simp only [List.length_append, List.length_take, List.length_drop, List.length_map, hAl, hv1, hv2]; omega) (by simp only [List.length_append, List.length_take, List.length_drop, List.length_map, hAl, hv1, hv2]; omega) (by simp only [List.length_append, List.length_take, List.length_drop, List.length_map, hAl, hv1, hv2]; omega) rfl) ?_
 refine Cx.nil ⟨rfl, ?_⟩
 refine FinX.done (AllC.cons (AllC.cons (AllC.cons (AllC.map _)))) (Fin.go (wk1 9 rfl (Tr.seq (Tr.reg0 (cm rfl (cm rfl (Ch.nil (Fin.go (Tr.ret (Fin.then_ret ?_))))))))))
 refine Fin.closeH (sz := 1) 0 rfl (rows := ((l.take i ++ [x] ++ l.drop i).map (fun n : Int => [int n]))) (sp := sp1.drop ((l.length + 1 - i) * 1)) (m := i + (l.length + 1 - i)) (ins_grownZ (a := i * 1) (z := 1) (Z := sp1.map is) (N := l.length * 1) hAl (by omega) rfl (by rw [List.length_map]; omega) (by omega) (by omega) (by omega) (by omega) (by rw [List.length_drop, List.length_map]; omega) (by rw [← List.map_drop, flat_dropN (f := (fun n : Int => [int n])) (sz := 1) (fun _ => rfl), e2]) (by rw [List.map_drop, show (l.length + 1 - i) * 1 = l.length * 1 + 1 - i * 1 by omega, ← flat_insN (f := (fun n : Int => [int n])) (sz := 1) (l := l) (i := i) (x := x) (fun _ => rfl)]; rfl)) (by simp only [List.length_map, List.length_append, List.length_take, List.length_drop, List.length_cons, List.length_nil]; omega) (by omega) hm1 (by rw [List.length_drop]; omega) ?_
 refine Fin.drop 1 ?_
 refine Fin.retM1 rfl rfl ?_ (by rintro _ _ _ rfl; rfl)
 · rintro _ _ _ rfl; exact ⟨_, _, by congr 1; omega⟩
 refine Tr.skip (Fin.go (Tr.seq (Tr.reg0 (cm rfl (cm rfl (cm rfl (cad rfl rfl rfl rfl (by omega) (co rfl (okb_sliceCap rfl Tryz.underlying22 sz3 ⟨_, rfl, andIs_is _ _⟩ (vl rfl) (by omega) (by omega) (by omega)) (cm rfl (Ch.nil (Fin.go (wk5 0 1 2 7 8 rfl (Tr.seq (Tr.seq ?_))))))))))))))
 refine Tr.regT ?_
 iterate 4 refine tm rfl ?_
 refine tp rfl (ok_add rfl (vl rfl) (vl rfl) ?hin) ?_; case hin => unfold InI; omega
 refine tp rfl (okb_sliceFrom rfl Tryz.underlying22 sz3 (vl rfl) (vl rfl) (by omega) (by omega) (by omega)) ?_
 refine TO.rd 0 rfl rfl rfl (by decide) (rd_overlaps (tR := 4) rfl Tryz.func251 (by kernel_rfl) (by kernel_rfl) (by kernel_rfl) (by kernel_rfl) Tryz.underlying22 sz3 (by decide) (vl rfl) (by exact Nat.zero_lt_succ _) (vl rfl) (by simp only [List.length_append, List.length_take, List.length_drop, List.length_map, hAl, hv1, hv2]; omega)) ?_
 refine tp rfl (ok_not rfl (vl rfl)) (TO.nil (Fin.go ?_))
 refine Tr.cn rfl ?_ ?_ <;> intro h4 q4
 refine Tr.seq (Tr.regX mixed [none, none, none, none, none, none, none, none, some (0, 0, true, 0)] (by kernel_rfl) (xm rfl (xm rfl (xm rfl ?_))))
 refine xo rfl (fun _ => ok_add rfl (vl rfl) (vl rfl) ?hin) ?_; case hin => unfold InI; omega
 refine xo rfl (fun _ => okb_sliceFrom rfl Tryz.underlying22 sz3 (vl rfl) (vl rfl) (by omega) (by omega) (by omega)) (xm rfl (xm rfl (xo rfl (fun _ => okb_sliceFrom rfl Tryz.underlying22 sz3 (vl rfl) (vl rfl) (by omega) (by omega) (by omega)) ?_)))
 refine Cx.ef 0 rfl rfl (by decide) (ef_copyB (m := l.length - i) rfl rfl rfl Tryz.underlying22 sz3 (vl rfl) (vl rfl) (by show _ = min _ _; omega) (by simp only [List.length_append, List.length_take, List.length_drop, List.length_map, hAl, hv1, hv2]; omega) (by simp only [List.length_append, List.length_take, List.length_drop, List.length_map, hAl, hv1, hv2]; omega) rfl) ?_
 refine Cx.nil ⟨rfl, ?_⟩
 refine FinX.done (AllC.cons (AllC.cons (AllC.map _))) (Fin.go (wk3 0 1 2 rfl (Tr.seq (Tr.regT (tm rfl (tm rfl (tp rfl (okb_sliceFrom rfl Tryz.underlying22 sz3 (vl rfl) (vl rfl) (by omega) (by omega) (by omega)) (tm rfl ?_))))))))
 refine TO.efc 0 rfl rfl (by decide) (ef_copyS rfl rfl rfl Tryz.underlying22 sz3 (by decide) (vl rfl) (vl rfl) (by omega) (by omega) (by simp only [List.length_append, List.length_take, List.length_drop, List.length_map, hAl, hv1, hv2]; omega) rfl) ?_
 refine TO.nil (Fin.go (Tr.seq (Tr.reg0 (cm rfl (cm rfl (Ch.nil (Fin.go (Tr.ret (Fin.then_ret ?_)))))))))
 refine Fin.closeH (sz := 1) 0 rfl (rows := ((l.take i ++ [x] ++ l.drop i).map (fun n : Int => [int n]))) (sp := sp.drop 1) (m := l.length + 1) (ins_placeZ (a := i * 1) (z := 1) (S := sp.map is) (N := l.length * 1) hAl (by omega) rfl (by rw [List.length_map]; omega) (by omega) (by omega) (by omega) (by omega) (by omega) (by omega) (by rw [List.map_drop, ← flat_insN (f := (fun n : Int => [int n])) (sz := 1) (l := l) (i := i) (x := x) (fun _ => rfl)]; rfl)) (by simp only [List.length_map, List.length_append, List.length_take, List.length_drop, List.length_cons, List.length_nil]; omega) (by omega) hm (by rw [List.length_drop]; omega) ?_
 refine Fin.retM1 rfl rfl ?_ (by rintro _ _ _ rfl; rfl)
 · rintro _ _ _ rfl; exact ⟨_, _, by rfl⟩
 exact absurd h4 (by decide)
theorem e_InsBi : Entry Tryz.prog 225 := ⟨_, Tryz.func225, rfl, rfl⟩
set_option maxRecDepth 20000 in
theorem w_InsEi {x : Int}  : FunM Tryz.prog 225 [full 1 [], int ((0 : Nat) : Int), slice 1 [[int x]]] (lens 1) (noRes) (fun v => mutRes 3 1 [[int x]] v) := by
 refine FunM.of Tryz.func225 rfl rfl (by exact Nat.le_of_ble_eq_true rfl) fun M0 w0 S rs M1 w1 => ?_
 have hv1 : ([[int x]] : List (List Pr)).length = 1 := rfl
 refine Tr.seq (Tr.reg0 (cm rfl (Ch.nil (Fin.go (Tr.seq (Tr.reg0 (cm rfl (cm rfl (co rfl (ok_sliceFrom rfl Tryz.underlying22 sz3 ⟨_, rfl, full_le _ _⟩ (vl rfl) (by omega) (by omega)) (Ch.nil (Fin.go (Tr.seq (Tr.reg0 ?_)))))))))))))
 refine cm rfl (co rfl (ok_len rfl Tryz.underlying22 (vl rfl)) (cm rfl (Ch.nil (Fin.go (Tr.seq (Tr.seq (Tr.reg0 (cm rfl (co rfl (ki rfl rfl rfl rfl) (Ch.nil (Fin.go ?_)))))))))))
 refine Tr.cn rfl ?_ ?_ <;> intro h1 q1
 simp at h1
 refine Tr.skip (Fin.go (Tr.seq (Tr.reg0 (cm rfl (co rfl (ok_len rfl Tryz.underlying22 ⟨_, rfl, full_le _ _⟩) (cm rfl (Ch.nil (Fin.go (Tr.seq (Tr.seq (Tr.reg0 (cm rfl (cm rfl ?_)))))))))))))
 refine co rfl (ki rfl rfl rfl rfl) (Ch.nil (Fin.go (wk6 0 1 2 7 8 22 rfl ?_)))
 refine Tr.cn rfl ?_ ?_ <;> intro h2 q2
 refine Tr.seq (Tr.regT (tm rfl (tm rfl (TO.pad ?_))))
 refine TO.efs 0 rfl rfl (by decide) (ef_appvoid rfl rfl (by decide) rfl Tryz.underlying22 sz3 by3 z3 rfl (by decide) (by decide) (vl rfl) (vl rfl) (by simp) (by simp; unfold maxLen; omega) (by simp)) (fun v1 => ?_)
 refine tm rfl (TO.nil (Fin.go (Tr.ret (Fin.then_ret (Fin.drop 1 ?_)))))
 refine Fin.retM1 rfl rfl ?_ (by intro _ _ _ h; rw [h.1])
 · exact Pr.le_trans (andIs_le _ _) (Pr.le_refl _)
 exact absurd h2 (by decide)
theorem w_InsWi {l : List (Int)} {x : Int} {v : Value} {i : Nat} (hi : i ≤ l.length) (hl : l.length ≤ 1000000) : FunM Tryz.prog 225 [is v, int ((i : Nat) : Int), slice 1 [[int x]]] (slice 1 ((l.take i ++ [x] ++ l.drop i).map (fun n : Int => [int n]))) (oweRes 3 1 (l.map (fun n : Int => [int n])) v) (fun _ => noRes) := by
  refine FunM.frz (e := 3) (m := l.length + 1) (map_rows fun _ => rfl) (FunM.owe_cases e_InsBi (fun h0 => ?_) (fun b cap sp hc hm hq => ?_))
  · have hl0 : l = [] := by simpa using h0
    subst hl0
    have hi0 : i = 0 := by simpa using hi
    subst hi0
    exact FunM.own_of_mut w_InsEi
  · rw [List.length_map] at hc hq ⊢
    exact w_InsBi hi hl hc hm (by omega)
theorem w_DelWi {l : List (Int)} {v : Value} {i : Nat} (hi : i < l.length) (hl : l.length ≤ 1000000) : FunM Tryz.prog 177 [is v, int ((i : Nat) : Int), int (((i : Nat) : Int) + 1)] (slice 1 ((l.eraseIdx i).map (fun n : Int => [int n]))) (oweRes 3 1 (l.map (fun n : Int => [int n])) v) (fun _ => noRes) := by
  refine FunM.frz (e := 3) (m := l.length - 1) (map_rows fun _ => rfl) (FunM.owe_cases e_DelBi (fun h0 => ?_) (fun b cap sp hc hm hq => ?_))
  · have hl0 : l = [] := by simpa using h0
    subst hl0; simp at hi
  · rw [List.length_map] at hc hq ⊢
    exact w_DelBi hi hl hc hm (by omega)

set_option maxRecDepth 20000 in
set_option maxHeartbeats 1000000 in
theorem w_InsBn {l : List (Idn)} {x : Idn} {b0 cap i : Nat} {sp : List Value} (hi : i ≤ l.length) (hl : l.length ≤ 1000000) (hc : l.length ≤ cap) (hm : cap ≤ maxLen) (hq : sp.length = (cap - l.length) * 4) : FunM Tryz.prog 228 [andIs (.slice (some ⟨b0, 0, none⟩) l.length cap) (lens l.length), int ((i : Nat) : Int), slice 4 [rowId x]] (lens (l.length + 1)) (cellsRes true b0 47 ((l.map rowId).flatten ++ sp.map is)) (fun v => ownRes 47 4 ((l.take i ++ [x] ++ l.drop i).map rowId) v) := by
 refine FunM.of Tryz.func228 rfl rfl (by exact Nat.le_of_ble_eq_true rfl) fun M0 w0 S rs M1 w1 => ?_
 have hv2 : ([rowId x] : List (List Pr)).flatten.length = 4 := rfl
 have hv1 : ([rowId x] : List (List Pr)).length = 1 := rfl
 have hAl : ((l.map rowId).flatten).length = l.length * 4 := by rw [flat_len (sz := 4) (map_rows fun _ => rfl), List.length_map]
 have e1 : (((i : Nat) : Int) + (1 : Int)).toNat = i + 1 := by omega
 have e2 : ((i : Nat) : Int).toNat = i := by omega
 refine Tr.seq (Tr.reg0 (cm rfl (Ch.nil (Fin.go (Tr.seq (Tr.reg0 (cm rfl (cm rfl (co rfl (okb_sliceAny rfl Tryz.underlying33 sz47 ⟨_, rfl, andIs_is _ _⟩ (vl rfl) (by omega) (by omega) (by omega)) (Ch.nil (Fin.go (Tr.seq (Tr.reg0 ?_)))))))))))))
 refine cm rfl (co rfl (ok_len rfl Tryz.underlying33 (vl rfl)) (cm rfl (Ch.nil (Fin.go (Tr.seq (Tr.seq (Tr.reg0 (cm rfl (co rfl (ki rfl rfl rfl rfl) (Ch.nil (Fin.go ?_)))))))))))
 refine Tr.cn rfl ?_ ?_ <;> intro h1 q1
 simp at h1
 refine Tr.skip (Fin.go (Tr.seq (Tr.reg0 (cm rfl (co rfl (okb_len rfl Tryz.underlying33 ⟨_, rfl, andIs_is _ _⟩) (cm rfl (Ch.nil (Fin.go (Tr.seq (Tr.seq (Tr.reg0 (cm rfl (cm rfl ?_)))))))))))))
 refine co rfl (ki rfl rfl rfl rfl) (Ch.nil (Fin.go (wk6 0 1 2 7 8 22 rfl ?_)))
 refine Tr.cn rfl ?_ ?_ <;> intro h2 q2
 refine Tr.seq (Tr.closeG (sz := 4) 0 rfl (rows := l.map rowId) (sp := sp) rfl (by simp) hc hm hq (Tr.regT (tm rfl (tm rfl ?_))))
 refine TO.efs 0 rfl rfl (by decide) (ef_appmut rfl rfl (by decide) rfl Tryz.underlying33 sz47 by47 z47 rfl (by decide) (by decide) (vl rfl) (vl rfl) (map_rows fun _ => rfl) (Nat.zero_lt_succ _) (by simp only [List.length_map, List.length_cons, List.length_nil]; unfold maxLen; omega) (by simp only [List.length_map, List.length_cons, List.length_nil]; omega)) (fun v1 => ?_)
 refine tm rfl (TO.nil (Fin.go (Tr.ret (Fin.then_ret ?_))))
 refine Fin.retM1 rfl rfl ?_ (by rintro _ _ _ ⟨rfl, _⟩; rw [show i = l.length by omega, List.take_length, List.drop_length, List.append_nil, List.map_append]; rfl)
 · exact Pr.le_trans (andIs_le _ _) (Pr.le_of_eq (by simp))
 refine Tr.skip (Fin.go (Tr.seq (Tr.seq (Tr.reg0 (cm rfl (cm rfl (cad rfl rfl rfl rfl (by omega) (cm rfl (co rfl (okb_cap rfl Tryz.underlying33 ⟨_, rfl, andIs_is _ _⟩) (co rfl (ki rfl rfl rfl rfl) (Ch.nil (Fin.go ?_))))))))))))
 refine Tr.cn rfl ?_ ?_ <;> intro h3 q3
 refine Tr.seq (Tr.regT (tm rfl (tm rfl (tp rfl (okb_sliceTo rfl Tryz.underlying33 sz47 ⟨_, rfl, andIs_is _ _⟩ (vl rfl) (by omega) (by omega) (by omega) (by omega)) (tm rfl (tm rfl ?_))))))
 refine tp rfl (ok_add rfl (vl rfl) (vl rfl) ?hin) ?_; case hin => unfold InI; omega
 refine tm rfl ?_
 refine tp rfl (ok_sub rfl (vl rfl) (vl rfl) ?hin) ?_; case hin => unfold InI; omega
 refine TO.pad ?_
 refine TO.appzs 0 1 rfl rfl rfl rfl (by decide) rfl Tryz.underlying33 Tryz.underlying3 sz47 by47 z47 rfl (by decide) (by decide) (vl rfl) (vl rfl) (i := i) (k := l.length + 1 - i) (by omega) (by simp only [List.length_append, List.length_take, List.length_drop, List.length_map, hAl, hv1, hv2]; omega) (by omega) (by omega) (by unfold maxLen; omega) (by omega) (fun b1 cap1 sp1 hg1 hm1 hs1 => ?_)
 refine tm rfl (TO.nil (Fin.go (wk5 0 1 2 7 9 rfl (Tr.seq ?_))))
 have hsz : sp1.length = (cap1 - i) * 4 := by have := hs1; rw [List.length_take, List.length_append, hAl] at this; omega
 refine Tr.frzS (sz := 4) (l.map rowId) 1 0 rfl rfl (Pr.le_trans (andIs_is _ _) (Pr.le_of_eq (by simp))) (map_rows fun _ => rfl) (by rw [List.length_map]; exact hc) hm (by rw [List.length_map, List.length_map]; omega) ?_
 refine Tr.regT (tm rfl (tm rfl (tp rfl (okb_sliceFrom rfl Tryz.underlying33 sz47 (vl rfl) (vl rfl) (by omega) (by omega) (by omega)) (tm rfl ?_))))
 refine TO.efc 0 rfl rfl (by decide) (ef_copyS rfl rfl rfl Tryz.underlying33 sz47 (by decide) (vl rfl) (vl rfl) (by omega) (by omega) (by simp only [List.length_append, List.length_take, List.length_drop, List.length_map, hAl, hv1, hv2]; omega) rfl) ?_
 refine TO.nil (Fin.go (Tr.seq (Tr.regX mixed [none, none, none, none, none, none, none, none, some (0, 0, true, 0)] (by kernel_rfl) (xm rfl (xm rfl (xm rfl ?_))))))
 refine xo rfl (fun _ => ok_add rfl (vl rfl) (vl rfl) ?hin) ?_; case hin => unfold InI; omega
 refine xo rfl (fun _ => okb_sliceFrom rfl Tryz.underlying33 sz47 (vl rfl) (vl rfl) (by omega) (by omega) (by omega)) (xm rfl (xm rfl ?_))
 refine xo rfl (fun _ => ok_sliceFrom rfl Tryz.underlying33 sz47 ⟨_, rfl, andIs_le _ _⟩ (vl rfl) (by omega) (by simp; omega)) ?_
 refine Cx.ef 0 rfl rfl (by decide) (ef_copyS rfl rfl rfl Tryz.underlying33 sz47 (by decide) (vl rfl) (vl rfl) (by simp only [List.length_append, List.length_take, List.length_drop, List.length_map, hAl, hv1, hv2]; omega) (by simp only [List.length_append, List.length_take, List.length_drop, List.length_map, hAl, hv1, hv2]; omega) (by simp only [List.length_append, List.length_take, List.length_drop, List.length_map, hAl, hv1, hv2]; omega) rfl) ?_
 refine Cx.nil ⟨rfl, ?_⟩
 refine FinX.done (AllC.cons (AllC.cons (AllC.cons (AllC.map _)))) (Fin.go (wk1 9 rfl (Tr.seq (Tr.reg0 (cm rfl (cm rfl (Ch.nil (Fin.go (Tr.ret (Fin.then_ret ?_))))))))))
 refine Fin.closeH (sz := 4) 0 rfl (rows := ((l.take i ++ [x] ++ l.drop i).map rowId)) (sp := sp1.drop ((l.length + 1 - i) * 4)) (m := i + (l.length + 1 - i)) (ins_grownZ (a := i * 4) (z := 4) (Z := sp1.map is) (N := l.length * 4) hAl (by omega) rfl (by rw [List.length_map]; omega) (by omega) (by omega) (by omega) (by omega) (by rw [List.length_drop, List.length_map]; omega) (by rw [← List.map_drop, flat_dropN (f := rowId) (sz := 4) (fun _ => rfl), e2]) (by rw [List.map_drop, show (l.length + 1 - i) * 4 = l.length * 4 + 4 - i * 4 by omega, ← flat_insN (f := rowId) (sz := 4) (l := l) (i := i) (x := x) (fun _ => rfl)]; rfl)) (by simp only [List.length_map, List.length_append, List.length_take, List.length_drop, List.length_cons, List.length_nil]; omega) (by omega) hm1 (by rw [List.length_drop]; omega) ?_
 refine Fin.drop 1 ?_
 refine Fin.retM1 rfl rfl ?_ (by rintro _ _ _ rfl; rfl)
 · rintro _ _ _ rfl; exact ⟨_, _, by congr 1; omega⟩
 refine Tr.skip (Fin.go (Tr.seq (Tr.reg0 (cm rfl (cm rfl (cm rfl (cad rfl rfl rfl rfl (by omega) (co rfl (okb_sliceCap rfl Tryz.underlying33 sz47 ⟨_, rfl, andIs_is _ _⟩ (vl rfl) (by omega) (by omega) (by omega)) (cm rfl (Ch.nil (Fin.go (wk5 0 1 2 7 8 rfl (Tr.seq (Tr.seq ?_))))))))))))))
 refine Tr.regT ?_
 iterate 4 refine tm rfl ?_
 refine tp rfl (ok_add rfl (vl rfl) (vl rfl) ?hin) ?_; case hin => unfold InI; omega
 refine tp rfl (okb_sliceFrom rfl Tryz.underlying33 sz47 (vl rfl) (vl rfl) (by omega) (by omega) (by omega)) ?_
 refine TO.rd 0 rfl rfl rfl (by decide) (rd_overlaps (tR := 4) rfl Tryz.func253 (by kernel_rfl) (by kernel_rfl) (by kernel_rfl) (by kernel_rfl) Tryz.underlying33 sz47 (by decide) (vl rfl) (by exact Nat.zero_lt_succ _) (vl rfl) (by simp only [List.length_append, List.length_take, List.length_drop, List.length_map, hAl, hv1, hv2]; omega)) ?_
 refine tp rfl (ok_not rfl (vl rfl)) (TO.nil (Fin.go ?_))
 refine Tr.cn rfl ?_ ?_ <;> intro h4 q4
 refine Tr.seq (Tr.regX mixed [none, none, none, none, none, none, none, none, some (0, 0, true, 0)] (by kernel_rfl) (xm rfl (xm rfl (xm rfl ?_))))
 refine xo rfl (fun _ => ok_add rfl (vl rfl) (vl rfl) ?hin) ?_; case hin => unfold InI; omega
 refine xo rfl (fun _ => okb_sliceFrom rfl Tryz.underlying33 sz47 (vl rfl) (vl rfl) (by omega) (by omega) (by omega)) (xm rfl (xm rfl (xo rfl (fun _ => okb_sliceFrom rfl Tryz.underlying33 sz47 (vl rfl) (vl rfl) (by omega) (by omega) (by omega)) ?_)))
 refine Cx.ef 0 rfl rfl (by decide) (ef_copyB (m := l.length - i) rfl rfl rfl Tryz.underlying33 sz47 (vl rfl) (vl rfl) (by show _ = min _ _; omega) (by simp only [List.length_append, List.length_take, List.length_drop, List.length_map, hAl, hv1, hv2]; omega) (by simp only [List.length_append, List.length_take, List.length_drop, List.length_map, hAl, hv1, hv2]; omega) rfl) ?_
 refine Cx.nil ⟨rfl, ?_⟩
 refine FinX.done (AllC.cons (AllC.cons (AllC.map _))) (Fin.go (wk3 0 1 2 rfl (Tr.seq (Tr.regT (tm rfl (tm rfl (tp rfl (okb_sliceFrom rfl Tryz.underlying33 sz47 (vl rfl) (vl rfl) (by omega) (by omega) (by omega)) (tm rfl ?_))))))))
 refine TO.efc 0 rfl rfl (by decide) (ef_copyS rfl rfl rfl Tryz.underlying33 sz47 (by decide) (vl rfl) (vl rfl) (by omega) (by omega) (by simp only [List.length_append, List.length_take, List.length_drop, List.length_map, hAl, hv1, hv2]; omega) rfl) ?_
 refine TO.nil (Fin.go (Tr.seq (Tr.reg0 (cm rfl (cm rfl (Ch.nil (Fin.go (Tr.ret (Fin.then_ret ?_)))))))))
 refine Fin.closeH (sz := 4) 0 rfl (rows := ((l.take i ++ [x] ++ l.drop i).map rowId)) (sp := sp.drop 4) (m := l.length + 1) (ins_placeZ (a := i * 4) (z := 4) (S := sp.map is) (N := l.length * 4) hAl (by omega) rfl (by rw [List.length_map]; omega) (by omega) (by omega) (by omega) (by omega) (by omega) (by omega) (by rw [List.map_drop, ← flat_insN (f := rowId) (sz := 4) (l := l) (i := i) (x := x) (fun _ => rfl)]; rfl)) (by simp only [List.length_map, List.length_append, List.length_take, List.length_drop, List.length_cons, List.length_nil]; omega) (by omega) hm (by rw [List.length_drop]; omega) ?_
 refine Fin.retM1 rfl rfl ?_ (by rintro _ _ _ rfl; rfl)
 · rintro _ _ _ rfl; exact ⟨_, _, by rfl⟩
 exact absurd h4 (by decide)
theorem e_InsBn : Entry Tryz.prog 228 := ⟨_, Tryz.func228, rfl, rfl⟩
set_option maxRecDepth 20000 in
theorem w_InsEn {x : Idn}  : FunM Tryz.prog 228 [full 4 [], int ((0 : Nat) : Int), slice 4 [rowId x]] (lens 1) (noRes) (fun v => mutRes 47 4 [rowId x] v) := by
 refine FunM.of Tryz.func228 rfl rfl (by exact Nat.le_of_ble_eq_true rfl) fun M0 w0 S rs M1 w1 => ?_
 have hv1 : ([rowId x] : List (List Pr)).length = 1 := rfl
 refine Tr.seq (Tr.reg0 (cm rfl (Ch.nil (Fin.go (Tr.seq (Tr.reg0 (cm rfl (cm rfl (co rfl (ok_sliceFrom rfl Tryz.underlying33 sz47 ⟨_, rfl, full_le _ _⟩ (vl rfl) (by omega) (by omega)) (Ch.nil (Fin.go (Tr.seq (Tr.reg0 ?_)))))))))))))
 refine cm rfl (co rfl (ok_len rfl Tryz.underlying33 (vl rfl)) (cm rfl (Ch.nil (Fin.go (Tr.seq (Tr.seq (Tr.reg0 (cm rfl (co rfl (ki rfl rfl rfl rfl) (Ch.nil (Fin.go ?_)))))))))))
 refine Tr.cn rfl ?_ ?_ <;> intro h1 q1
 simp at h1
 refine Tr.skip (Fin.go (Tr.seq (Tr.reg0 (cm rfl (co rfl (ok_len rfl Tryz.underlying33 ⟨_, rfl, full_le _ _⟩) (cm rfl (Ch.nil (Fin.go (Tr.seq (Tr.seq (Tr.reg0 (cm rfl (cm rfl ?_)))))))))))))
 refine co rfl (ki rfl rfl rfl rfl) (Ch.nil (Fin.go (wk6 0 1 2 7 8 22 rfl ?_)))
 refine Tr.cn rfl ?_ ?_ <;> intro h2 q2
 refine Tr.seq (Tr.regT (tm rfl (tm rfl (TO.pad ?_))))
 refine TO.efs 0 rfl rfl (by decide) (ef_appvoid rfl rfl (by decide) rfl Tryz.underlying33 sz47 by47 z47 rfl (by decide) (by decide) (vl rfl) (vl rfl) (by simp) (by simp; unfold maxLen; omega) (by simp)) (fun v1 => ?_)
 refine tm rfl (TO.nil (Fin.go (Tr.ret (Fin.then_ret (Fin.drop 1 ?_)))))
 refine Fin.retM1 rfl rfl ?_ (by intro _ _ _ h; rw [h.1])
 · exact Pr.le_trans (andIs_le _ _) (Pr.le_refl _)
 exact absurd h2 (by decide)
theorem w_InsWn {l : List (Idn)} {x : Idn} {v : Value} {i : Nat} (hi : i ≤ l.length) (hl : l.length ≤ 1000000) : FunM Tryz.prog 228 [is v, int ((i : Nat) : Int), slice 4 [rowId x]] (slice 4 ((l.take i ++ [x] ++ l.drop i).map rowId)) (oweRes 47 4 (l.map rowId) v) (fun _ => noRes) := by
  refine FunM.frz (e := 47) (m := l.length + 1) (map_rows fun _ => rfl) (FunM.owe_cases e_InsBn (fun h0 => ?_) (fun b cap sp hc hm hq => ?_))
  · have hl0 : l = [] := by simpa using h0
    subst hl0
    have hi0 : i = 0 := by simpa using hi
    subst hi0
    exact FunM.own_of_mut w_InsEn
  · rw [List.length_map] at hc hq ⊢
    exact w_InsBn hi hl hc hm (by omega)
theorem w_DelWn {l : List (Idn)} {v : Value} {i : Nat} (hi : i < l.length) (hl : l.length ≤ 1000000) : FunM Tryz.prog 183 [is v, int ((i : Nat) : Int), int (((i : Nat) : Int) + 1)] (slice 4 ((l.eraseIdx i).map rowId)) (oweRes 47 4 (l.map rowId) v) (fun _ => noRes) := by
  refine FunM.frz (e := 47) (m := l.length - 1) (map_rows fun _ => rfl) (FunM.owe_cases e_DelBn (fun h0 => ?_) (fun b cap sp hc hm hq => ?_))
  · have hl0 : l = [] := by simpa using h0
    subst hl0; simp at hi
  · rw [List.length_map] at hc hq ⊢
    exact w_DelBn hi hl hc hm (by omega)


theorem w_IdxWi {l : List Int} {x : Int} {v : Value} : FunM Tryz.prog 169 [is v, int x] (int (idx (fun y => x == y) l)) (oweRes 3 1 (l.map fun n => [int n]) v) (fun _ => oweRes 3 1 (l.map fun n => [int n]) v) := FunM.owe_pure (map_rows fun _ => rfl) w_IndexI
theorem w_HasWi {l : List Int} {x : Int} {v : Value} : FunM Tryz.prog 131 [is v, int x] (bool (l.any fun y => x == y)) (oweRes 3 1 (l.map fun n => [int n]) v) (fun _ => oweRes 3 1 (l.map fun n => [int n]) v) := FunM.owe_pure (map_rows fun _ => rfl) w_ContainsI

end Go.Proofs.YtflodcidhlmaaaaGreat
namespace Go.Proofs.YtflodcidhlmaaaaGreat
open Go Go.RowKit Cp

/-- Its lists are of some length. -/
structure Idn.small (x : Idn) : Prop where
  chain : x.chain.length ≤ 1000000
  names : ∀ c ∈ x.chain, c.names.length ≤ 1000000

set_option maxRecDepth 20000 in
theorem w_copyId {x : Idn} (hx : x.small) : Fun Tryz.prog 138 [agg (rowId x)] (agg (rowId x)) := by
 refine Fun.of Tryz.func138 rfl rfl (by exact Nat.le_of_ble_eq_true rfl) fun M0 w0 => ?_
 have hch := hx.chain
 refine Tr.seq (Tr.regT ?_)
 refine TO.boxm rfl rfl (by decide) rfl (VL.le (vl rfl) (agg_cellsP _)) (fun b1 => ?_)
 refine TO.alloc rfl rfl (by decide) rfl z47 zo47 (fun b2 => ?_)
 refine TO.nil (Fin.go (Tr.seq (Tr.regT (tp rfl (okp_fieldAddr rfl fo47_2 (vl rfl)) (TO.rd 1 rfl rfl rfl (by decide) (rd_load1 rfl one45 (vl rfl) rfl) (TO.pad ?_))))))
 refine TO.efs 0 rfl rfl (by decide) (ef_call rfl rfl (by decide) rfl (w_CloneWc (l := x.chain) (by omega)) ⟨ke rfl, trivial⟩) (fun v1 => ?_)
 refine tp rfl (okp_fieldAddr rfl fo47_2 (vl rfl)) (TO.ef0 2 rfl rfl (ef_store rfl rfl (vl rfl) (VL.le (vl rfl) (one_cellsP _)) sz45 rfl (by exact Nat.le_of_ble_eq_true rfl) rfl) (TO.nil (Fin.go (Tr.seq (Tr.seq (Tr.reg0 (co rfl (okp_fieldAddr rfl fo47_2 (vl rfl)) (co rfl (ok_rd 2 rfl (rd_load1 rfl one45 (vl rfl) rfl)) (co rfl (ok_rd 0 rfl (rd_lenW rfl Tryz.underlying45 ⟨_, rfl, andIs_is _ _⟩)) (cm rfl (Ch.nil (Fin.go (Tr.block (Tr.re 11 rfl (int_eq (by rw [List.length_map])) ?_))))))))))))))
 refine Tr.loopw [(1, _), (2, _), (10, _), (11, _)] (kk4 rfl) (fun k : Nat => [(12, int ((k : Nat) : Int))]) (fun k : Nat => k ≤ (x.chain).length) (fun k : Nat => (x.chain).length - k) 0 (Nat.zero_le _) ⟨ke rfl, trivial⟩ ?_
 rintro k hle_k
 refine Tr.seq (Tr.reg0 (co rfl (ki rfl rfl rfl rfl) (Ch.nil (Fin.go (Tr.seq ?_)))))
 refine Tr.cn rfl ?_ ?_ <;> intro h1 q1
 have hk_k : k < (x.chain).length := lt_of_dec h1
 obtain ⟨c, hx_k⟩ := at_ hk_k
 have hcn := hx.names c (List.mem_of_getElem? hx_k)
 refine Tr.skip (Fin.go (Tr.seq (Tr.block (Tr.seq (Tr.regT (tm rfl ?_))))))
 refine tp rfl (ok_rd 0 rfl (rd_elp rfl Tryz.underlying45 sz126 ⟨_, rfl, andIs_is _ _⟩ (vl rfl) (by omega) (by rw [List.length_map]; omega))) ?_
 refine tp rfl (ok_rd 0 rfl (rd_elload rfl agg126 sz126 (vl rfl) (map_rows fun _ => rfl) (by rw [Int.toNat_natCast, List.getElem?_map, hx_k]; rfl))) ?_
 refine TO.alloc rfl rfl (by decide) rfl z126 zo126 (fun b3 => ?_)
 refine tm rfl (TO.store_all 0 rfl rfl rfl (vl rfl) (VL.le (vl rfl) (agg_cellsP _)) rfl sz126 rfl rfl (TO.freeze 0 4 rfl rfl (TO.nil (Fin.go (Tr.regX mixed [none, some (0, 2, false, 0), none, none, none, none, some (0, 0, false, 0), none, some (0, 0, true, 0)] (by kernel_rfl) (xo rfl (fun _ => okp_fieldAddr rfl fo47_2 (vl rfl)) (xrd 2 rfl rfl (rd_load1 rfl one45 (vl rfl) rfl) (xm rfl (xo rfl (fun _ => kfa rfl fo126_10 rfl rfl) (xo rfl (fun _ => kl1 rfl one83 rfl) (xo rfl (fun _ => ok_call rfl (w_CloneFs hcn) ⟨ke rfl, trivial⟩) ?_)))))))))))
 refine xrd 0 rfl rfl (rd_elp rfl Tryz.underlying45 sz126 ⟨_, rfl, andIs_is _ _⟩ (vl rfl) (by omega) (by rw [List.length_map]; omega)) ?_
 refine xo rfl (fun _ => ok_elfield rfl fo126_10 (vl rfl)) ?_
 refine Cx.ef0 0 rfl rfl (ef_elstore rfl rfl (vl rfl) (VL.le (vl rfl) (one_cellsP _)) sz83 rfl (map_rows fun _ => rfl) (by rw [Int.toNat_natCast, List.getElem?_map, hx_k]; rfl) (by decide) (row_setI (f := rowCr) hx_k rfl)) ?_
 refine Cx.nil ⟨rfl, ?_⟩
 refine FinX.done (AllC.cons (AllC.cons (AllC.cons (AllC.map _)))) (Fin.block (Fin.go (wk5 1 2 10 11 12 rfl (Tr.reg0 (cad rfl rfl rfl rfl (by omega) (cm rfl (Ch.nil (Fin.fam_same (k + 1) ⟨hk_k, by omega⟩ ⟨⟨_, rfl, int_succ k⟩, ke rfl, ke rfl, ke rfl, ke rfl, trivial⟩))))))))
 have he_k : k = (x.chain).length := by have := ge_of_dec h1; omega
 subst he_k
 refine Tr.exit (Fin.then_exit (Fin.then_exit (Fin.block_here (Fin.go (Tr.seq (Tr.frzWC 2 0 3 rfl rfl (by decide) rfl (andIs_is _ _) (map_rows fun _ => rfl) (Tr.regT (TO.rd 2 rfl rfl rfl (by decide) (rd_loadA rfl agg47 sz47 (vl rfl) rfl rfl) (TO.store_all 1 rfl rfl rfl (vl rfl) (VL.le (vl rfl) (agg_cellsP _)) rfl sz47 rfl rfl (TO.nil (Fin.go (Tr.drop 0 (Tr.drop 1 (Tr.ret ?_))))))))))))))
 refine Fin.retX1 rfl (RVal.cell 0 rfl rfl agg47 sz47 rfl (Pr.le_refl _)) ?_
 · exact Pr.le_refl _
end Go.Proofs.YtflodcidhlmaaaaGreat
namespace Go.Proofs.YtflodcidhlmaaaaGreat
open Go Go.RowKit Cp

/-- A change. -/
structure Chg where
  endpoint : Int
  kind : Int
  number : Int
  at_ : Int
  idn : Idn
abbrev rowChg (c : Chg) : List Pr := [int c.endpoint, int c.kind, int c.number, int c.at_, int c.idn.alg, int c.idn.bits, int c.idn.keyId, certs c.idn.chain]
abbrev rowWt (c b : Chg) : List Pr := [int c.endpoint, int c.kind, int c.number, int c.at_, int c.idn.alg, int c.idn.bits, int c.idn.keyId, certs c.idn.chain, int b.endpoint, int b.kind, int b.number, int b.at_, int b.idn.alg, int b.idn.bits, int b.idn.keyId, certs b.idn.chain]
abbrev rowO (e : Ept) (p3 p5 p6 p7 : Pr) : List Pr := [str e.name, int e.least, int e.most, p3, bool e.own, p5, p6, p7, bool e.fall]
abbrev resW (wb ob : Nat) (c b : Chg) : Res := cellsRes true wb 147 (ptr ob 0 :: rowWt c b)
abbrev resO (ob : Nat) (e : Ept) (p3 p5 p6 p7 : Pr) : Res := cellsRes true ob 35 (rowO e p3 p5 p6 p7)
def keyIdx (key : Int) (l : List Idn) : Int := idx (fun x => x.keyId == key) l
theorem idx_hit {β : Type} {p : β → Bool} {l : List β} (h : 0 ≤ idx p l) : ∃ x, l[(idx p l).toNat]? = some x ∧ p x = true ∧ (idx p l).toNat < l.length := by
  unfold idx at *
  cases hf : l.findIdx? p with
  | none => rw [hf] at h; simp at h
  | some i =>
    rw [List.findIdx?_eq_some_iff_getElem] at hf
    obtain ⟨h1, h2, _⟩ := hf
    refine ⟨l[i], ?_, h2, by simpa using h1⟩
    simp

set_option maxRecDepth 20000 in
theorem w_idn1 {key : Int} {x : Idn}  : Fun Tryz.prog 227 [agg (rowId x), ref [int key]] (bool (x.keyId == key)) := by
 refine Fun.of Tryz.func227 rfl rfl (by exact Nat.le_of_ble_eq_true rfl) fun M0 w0 => ?_
 refine Tr.seq (Tr.reg0 (co rfl (ok_box rfl (VL.le (vl rfl) (agg_cellsP _))) (cm rfl (Ch.nil (Fin.go (Tr.seq (Tr.reg0 (co rfl (kfa rfl fo47_1 rfl rfl) (co rfl (kl1 rfl one3 rfl) (co rfl (kl1 rfl one3 rfl) (co rfl (ki rfl rfl rfl rfl) (cm rfl (Ch.nil (Fin.go ?_))))))))))))))
 refine Tr.ret (Fin.ret1 rfl (OutW.bse _ _) rfl ?_)
 · exact Pr.le_refl _
theorem e_idn1 : Entry Tryz.prog 227 := ⟨_, Tryz.func227, rfl, rfl⟩
set_option maxRecDepth 20000 in
theorem w_idn0 {e : Ept} {key : Int} {wps : List Pr}  : Fun Tryz.prog 179 [ref (ref (rowEp e) :: wps), int key] (int (keyIdx key e.ids)) := by
 refine Fun.of Tryz.func179 rfl rfl (by exact Nat.le_of_ble_eq_true rfl) fun M0 w0 => ?_
 refine Tr.seq (Tr.reg0 (co rfl (ok_box rfl (VL.le (vl rfl) (one_cellsP _))) (cm rfl (Ch.nil (Fin.go (Tr.seq (Tr.reg0 (cm rfl (co rfl (ok_nilCheck_ref rfl (vl rfl)) (co rfl (kfa rfl fo147_0 rfl rfl) (co rfl (kl1 rfl one145 rfl) (co rfl (ok_nilCheck_ref rfl (vl rfl)) (co rfl (kfa rfl fo35_5 rfl rfl) ?_)))))))))))))
 refine co rfl (kl1 rfl one33 rfl) (co rfl (ok_makeFunc rfl rfl) ?_)
 refine co rfl (ok_call rfl (w_IdxN (l := e.ids) (p := fun x => x.keyId == key)) ⟨ke rfl, ⟨_, rfl, fn_le_clo (dom := fun x : Idn => [agg (rowId x)]) (res := fun x => bool (x.keyId == key)) e_idn1 (fun x => w_idn1 (key := key) (x := x))⟩, trivial⟩) ?_
 refine cm rfl (Ch.nil (Fin.go (Tr.ret (Fin.ret1 rfl (OutW.bse _ _) rfl ?_))))
 · exact Pr.le_refl _
set_option maxRecDepth 20000 in
theorem w_drop1 {c b : Chg} {x : Idn} {q : Pr}  : Fun Tryz.prog 182 [agg (rowId x), ref [ref (q :: rowWt c b)]] (bool (x.keyId == c.number)) := by
 refine Fun.of Tryz.func182 rfl rfl (by exact Nat.le_of_ble_eq_true rfl) fun M0 w0 => ?_
 refine Tr.seq (Tr.reg0 (co rfl (ok_box rfl (VL.le (vl rfl) (agg_cellsP _))) (cm rfl (Ch.nil (Fin.go (Tr.seq (Tr.reg1 mixed (by kernel_rfl) (co rfl (kfa rfl fo47_1 rfl rfl) (co rfl (kl1 rfl one3 rfl) (co rfl (kl1 rfl one144 rfl) (co rfl (ok_nilCheck_ref rfl (vl rfl)) (co rfl (kfa rfl fo147_1 rfl rfl) (co rfl (kfa rfl fo49_2 rfl rfl) ?_)))))))))))))
 refine co rfl (kl1 rfl one3 rfl) (co rfl (ki rfl rfl rfl rfl) (cm rfl (Ch.nil (Fin.go (Tr.ret (Fin.ret1 rfl (OutW.bse _ _) rfl ?_))))))
 · exact Pr.le_refl _
theorem e_drop1 : Entry Tryz.prog 182 := ⟨_, Tryz.func182, rfl, rfl⟩

theorem w_idn {e : Ept} {c b : Chg} {wb ob : Nat} {p3 p6 p7 : Pr} {v : Value} {key : Int} (h3 : p3 = ints e.suites) (h6 : p6 = ints e.anchors) (h7 : p7 = ints e.hashes) : FunD Tryz.prog 179 [ptr wb 0, int key] [resW wb ob c b, resO ob e p3 (is v) p6 p7, oweRes 47 4 (e.ids.map rowId) v] (int (keyIdx key e.ids)) [resW wb ob c b, resO ob e p3 (is v) p6 p7, oweRes 47 4 (e.ids.map rowId) v] := by
  subst h3; subst h6; subst h7
  exact FunD.look (k := 5) (rows := rowEp e) (sz := 4) rfl (map_rows fun _ => rfl) rfl w_idn0
theorem w_twice {l : List Idn} {c b : Chg} {wb ob : Nat} {v : Value} {k : Nat} : FunD Tryz.prog 181 [Cp.part 4 v k, fn (.func 182) [ref [ptr wb 0]]] [resW wb ob c b, oweRes 47 4 (l.map rowId) v] (bool ((l.drop k).any fun x => x.keyId == c.number)) [resW wb ob c b, oweRes 47 4 (l.map rowId) v] := by
 refine FunD.lookPart (map_rows fun _ => rfl) ?_
 refine Fun.le (w_HasN (l := l.drop k) (p := fun x => x.keyId == c.number)) ?_ (Pr.le_refl _)
 intro M w vs hv
 match vs, hv with
 | [u0, u1], hv1 =>
  exact ⟨by have := hv1.1; rw [← List.map_drop] at this; exact this, fn_le_clo (dom := fun x : Idn => [agg (rowId x)]) (res := fun x => bool (x.keyId == c.number)) e_drop1 (fun x => w_drop1 (c := c) (b := b) (x := x)) _ _ _ hv1.2.1, trivial⟩

set_option maxRecDepth 20000 in
theorem w_dropSuiteN {e : Ept} {c b : Chg} {wb ob : Nat} {v : Value} {p5 p6 p7 : Pr}  (h : (idx (fun y => c.number == y) e.suites) < 0) : FunD Tryz.prog 142 [ptr wb 0] [resW wb ob c b, resO ob e (is v) p5 p6 p7, oweRes 3 1 (e.suites.map fun n => [int n]) v] (int 41) [] := by
 refine FunD.of Tryz.func142 rfl rfl (by exact Nat.le_of_ble_eq_true rfl) fun M0 w0 S rs M1 w1 => (Tr.seq (Tr.reg0 (cm rfl (Ch.nil (Fin.go (Tr.seq (Tr.regX mixed [none, none, none, some (0, 0, false, 0), none, none, some (0, 1, false, 0), none, none, none, none, some (0, 0, false, 0), some (0, 2, true, 0), none] (by kernel_rfl) (xm rfl (xo rfl (fun _ => okp_nilCheck rfl (vl rfl)) (xo rfl (fun _ => okp_fieldAddr rfl fo147_0 (vl rfl)) (xrd 0 rfl rfl (rd_load1 rfl one145 (vl rfl) rfl) (xo rfl (fun _ => okp_nilCheck rfl (vl rfl)) (xo rfl (fun _ => okp_fieldAddr rfl fo35_3 (vl rfl)) ?_)))))))))))))
 refine xrd 1 rfl rfl (rd_load1 rfl one22 (vl rfl) rfl) (xm rfl (xo rfl (fun _ => okp_nilCheck rfl (vl rfl)) (xo rfl (fun _ => okp_fieldAddr rfl fo147_1 (vl rfl)) (xo rfl (fun _ => okp_fieldAddr rfl fo49_2 (vl rfl)) (xrd 0 rfl rfl (rd_load1 rfl one3 (vl rfl) rfl) (Cx.ef 2 rfl rfl (by decide) (ef_callc rfl rfl (by decide) rfl (w_IdxWi) ⟨ke rfl, ke rfl, trivial⟩) (xm rfl ?_)))))))
 refine Cx.nil ⟨rfl, ?_⟩
 refine FinX.done (AllC.cons (AllC.cons (AllC.cons (AllC.cons (AllC.map _))))) (Fin.go (wk2 0 3 rfl (Tr.seq (Tr.seq (Tr.reg0 (cm rfl (co rfl (ki rfl rfl rfl rfl) (Ch.nil (Fin.go ?_)))))))))
 refine Tr.cn rfl ?_ ?_ <;> intro h1 q1
 refine Tr.seq (Tr.reg0 (cm rfl (Ch.nil (Fin.go (Tr.ret (Fin.then_ret (Fin.drop 0 (Fin.drop 0 (Fin.drop 0 (Fin.retD rfl (RVal.tmp rfl (Pr.le_refl _)) ?_ (List.Perm.refl _)))))))))))
 · exact Pr.le_refl _
 exfalso; have := q1; omega
set_option maxRecDepth 20000 in
theorem w_dropSuiteY {e : Ept} {c b : Chg} {wb ob : Nat} {v : Value} {p5 p6 p7 : Pr}  (h : 0 ≤ (idx (fun y => c.number == y) e.suites)) (hs : e.suites.length ≤ 1000000) : FunD Tryz.prog 142 [ptr wb 0] [resW wb ob c b, resO ob e (is v) p5 p6 p7, oweRes 3 1 (e.suites.map fun n => [int n]) v] (int 0) [resW wb ob c ⟨b.endpoint, 1, c.number, (idx (fun y => c.number == y) e.suites), b.idn⟩, resO ob e (ints (e.suites.eraseIdx (idx (fun y => c.number == y) e.suites).toNat)) p5 p6 p7] := by
 refine FunD.of Tryz.func142 rfl rfl (by exact Nat.le_of_ble_eq_true rfl) fun M0 w0 S rs M1 w1 => ?_
 obtain ⟨x_, hx_, _, hlt_⟩ := idx_hit h
 refine Tr.seq (Tr.reg0 (cm rfl (Ch.nil (Fin.go (Tr.seq (Tr.regX mixed [none, none, none, some (0, 0, false, 0), none, none, some (0, 1, false, 0), none, none, none, none, some (0, 0, false, 0), some (0, 2, true, 0), none] (by kernel_rfl) (xm rfl (xo rfl (fun _ => okp_nilCheck rfl (vl rfl)) (xo rfl (fun _ => okp_fieldAddr rfl fo147_0 (vl rfl)) (xrd 0 rfl rfl (rd_load1 rfl one145 (vl rfl) rfl) (xo rfl (fun _ => okp_nilCheck rfl (vl rfl)) (xo rfl (fun _ => okp_fieldAddr rfl fo35_3 (vl rfl)) (xrd 1 rfl rfl (rd_load1 rfl one22 (vl rfl) rfl) ?_)))))))))))))
 refine xm rfl (xo rfl (fun _ => okp_nilCheck rfl (vl rfl)) (xo rfl (fun _ => okp_fieldAddr rfl fo147_1 (vl rfl)) (xo rfl (fun _ => okp_fieldAddr rfl fo49_2 (vl rfl)) (xrd 0 rfl rfl (rd_load1 rfl one3 (vl rfl) rfl) (Cx.ef 2 rfl rfl (by decide) (ef_callc rfl rfl (by decide) rfl (w_IdxWi) ⟨ke rfl, ke rfl, trivial⟩) (xm rfl ?_))))))
 refine Cx.nil ⟨rfl, ?_⟩
 refine FinX.done (AllC.cons (AllC.cons (AllC.cons (AllC.cons (AllC.map _))))) (Fin.go (wk2 0 3 rfl (Tr.seq (Tr.seq (Tr.reg0 (cm rfl (co rfl (ki rfl rfl rfl rfl) (Ch.nil (Fin.go ?_)))))))))
 refine Tr.cn rfl ?_ ?_ <;> intro h1 q1
 exfalso; have := q1; omega
 refine Tr.skip (Fin.go (Tr.seq (Tr.regX mixed [none, none, none, some (0, 0, false, 0), none, none, none, some (0, 0, false, 0), none, none, some (0, 1, false, 0), none, none, none, some (0, 2, true, 0), none, none, some (0, 1, true, 0)] (by kernel_rfl) (xm rfl (xo rfl (fun _ => okp_nilCheck rfl (vl rfl)) (xo rfl (fun _ => okp_fieldAddr rfl fo147_0 (vl rfl)) (xrd 0 rfl rfl (rd_load1 rfl one145 (vl rfl) rfl) (xm rfl (xo rfl (fun _ => okp_nilCheck rfl (vl rfl)) (xo rfl (fun _ => okp_fieldAddr rfl fo147_0 (vl rfl)) (xrd 0 rfl rfl (rd_load1 rfl one145 (vl rfl) rfl) (xo rfl (fun _ => okp_nilCheck rfl (vl rfl)) (xo rfl (fun _ => okp_fieldAddr rfl fo35_3 (vl rfl)) ?_)))))))))))))
 refine xrd 1 rfl rfl (rd_load1 rfl one22 (vl rfl) rfl) (xm rfl (xm rfl ?_))
 refine xo rfl (fun _ => ok_add rfl (vl rfl) (vl rfl) ?hin) ?_; case hin => unfold InI; omega
 refine Cx.ef 2 rfl rfl (by decide) (ef_callc rfl rfl (by decide) rfl (w_DelWi (l := e.suites) (i := (idx (fun y => c.number == y) e.suites).toNat) (by omega) hs) ⟨ke rfl, ⟨_, rfl, int_eq (by omega)⟩, ⟨_, rfl, int_eq (by omega)⟩, trivial⟩) ?_
 refine xo rfl (fun _ => okp_nilCheck rfl (vl rfl)) (xo rfl (fun _ => okp_fieldAddr rfl fo35_3 (vl rfl)) (Cx.ef0 1 rfl rfl (ef_store rfl rfl (vl rfl) (VL.le (vl rfl) (one_cellsP _)) sz22 rfl (by exact Nat.le_of_ble_eq_true rfl) rfl) ?_))
 refine Cx.nil ⟨rfl, ?_⟩
 refine FinX.done (AllC.cons (AllC.cons (AllC.cons (AllC.cons (AllC.map _))))) (Fin.go (wk2 0 3 rfl (Tr.seq (Tr.regT ?_))))
 iterate 4 refine tm rfl ?_
 refine tp rfl (okp_nilCheck rfl (vl rfl)) (tp rfl (okp_fieldAddr rfl fo147_1 (vl rfl)) (tp rfl (okp_fieldAddr rfl fo49_2 (vl rfl)) (TO.rd 0 rfl rfl rfl (by decide) (rd_load1 rfl one3 (vl rfl) rfl) (tm rfl (tp rfl (okp_nilCheck rfl (vl rfl)) (tp rfl (okp_fieldAddr rfl fo147_2 (vl rfl)) (tp rfl (okp_fieldAddr rfl fo49_1 (vl rfl)) (TO.ef0 0 rfl rfl (ef_store rfl rfl (vl rfl) (VL.le (vl rfl) (one_cellsP _)) sz3 rfl (by exact Nat.le_of_ble_eq_true rfl) rfl) (tp rfl (okp_nilCheck rfl (vl rfl)) (tp rfl (okp_fieldAddr rfl fo147_2 (vl rfl)) (tp rfl (okp_fieldAddr rfl fo49_2 (vl rfl)) (TO.ef0 0 rfl rfl (ef_store rfl rfl (vl rfl) (VL.le (vl rfl) (one_cellsP _)) sz3 rfl (by exact Nat.le_of_ble_eq_true rfl) rfl) (tp rfl (okp_nilCheck rfl (vl rfl)) ?_)))))))))))))
 refine tp rfl (okp_fieldAddr rfl fo147_2 (vl rfl)) (tp rfl (okp_fieldAddr rfl fo49_3 (vl rfl)) (TO.ef0 0 rfl rfl (ef_store rfl rfl (vl rfl) (VL.le (vl rfl) (one_cellsP _)) sz3 rfl (by exact Nat.le_of_ble_eq_true rfl) rfl) (TO.nil (Fin.go (Tr.weak [] trivial (Tr.seq (Tr.reg0 (cm rfl (Ch.nil (Fin.go (Tr.ret (Fin.drop 2 (Fin.retD rfl (RVal.tmp rfl (Pr.le_refl _)) ?_ (List.Perm.refl _))))))))))))))
 · exact Pr.le_refl _
set_option maxRecDepth 20000 in
theorem w_insNBad {e : Ept} {x : Idn} {at_ : Int} {ob : Nat} {v : Value} {p3 p6 p7 : Pr}  (hr : ¬ (0 ≤ at_ ∧ at_ ≤ (e.ids.length : Nat))) : FunD Tryz.prog 180 [ptr ob 5, int at_, agg (rowId x)] [resO ob e p3 (is v) p6 p7, oweRes 47 4 (e.ids.map rowId) v] (int 2) [] := by
 refine FunD.of Tryz.func180 rfl rfl (by exact Nat.le_of_ble_eq_true rfl) fun M0 w0 S rs M1 w1 => (Tr.seq ?_)
 have hml : (e.ids.map rowId).length = e.ids.length := List.length_map _
 refine Tr.reg0 (co rfl (ok_box rfl (VL.le (vl rfl) (agg_cellsP _))) (cm rfl (Ch.nil (Fin.go (Tr.seq (Tr.seq (Tr.reg0 (cm rfl (co rfl (ki rfl rfl rfl rfl) (cm rfl ?_))))))))))
 refine Ch.cs 9 rfl ?_ ?_ <;> intro h1 q1
 have hq9 := q1
 iterate 6 refine cnf h1 rfl ?_
 refine co rfl (kpt rfl rfl h1 rfl) (Ch.nil (Fin.go (Tr.cond rfl (fun _ => ?_) (fun h => nomatch h))))
 refine Tr.seq (Tr.reg0 (cm rfl (Ch.nil (Fin.go (Tr.ret (Fin.then_ret (Fin.drop 0 (Fin.drop 0 (Fin.retD rfl (RVal.tmp rfl (Pr.le_refl _)) ?_ (List.Perm.refl _))))))))))
 · exact Pr.le_refl _
 refine cym h1 rfl (cym h1 rfl (cy h1 rfl (okp_nilCheck rfl (vl rfl)) (cy h1 rfl (ok_rd 0 rfl (rd_load1 rfl one33 (vl rfl) rfl)) (cy h1 rfl (ok_rd 1 rfl (rd_lenW rfl Tryz.underlying33 (vl rfl))) (cy h1 rfl (ki rfl rfl rfl rfl) (co rfl (kpf rfl rfl h1 rfl) (Ch.nil (Fin.go ?_))))))))
 refine Tr.cn rfl ?_ ?_ <;> intro h2 q2
 refine Tr.seq (Tr.reg0 (cm rfl (Ch.nil (Fin.go (Tr.ret (Fin.then_ret (Fin.drop 0 (Fin.drop 0 (Fin.retD rfl (RVal.tmp rfl (Pr.le_refl _)) ?_ (List.Perm.refl _))))))))))
 · exact Pr.le_refl _
 exfalso; simp_all
set_option maxRecDepth 20000 in
theorem w_insNOk {e : Ept} {x : Idn} {at_ : Int} {ob : Nat} {v : Value} {p3 p6 p7 : Pr}  (hr : 0 ≤ at_ ∧ at_ ≤ (e.ids.length : Nat)) (hl : e.ids.length ≤ 1000000) : FunD Tryz.prog 180 [ptr ob 5, int at_, agg (rowId x)] [resO ob e p3 (is v) p6 p7, oweRes 47 4 (e.ids.map rowId) v] (int 0) [resO ob e p3 (idns (e.ids.take at_.toNat ++ [x] ++ e.ids.drop at_.toNat)) p6 p7] := by
 refine FunD.of Tryz.func180 rfl rfl (by exact Nat.le_of_ble_eq_true rfl) fun M0 w0 S rs M1 w1 => (Tr.seq ?_)
 have hml : (e.ids.map rowId).length = e.ids.length := List.length_map _
 refine Tr.reg0 (co rfl (ok_box rfl (VL.le (vl rfl) (agg_cellsP _))) (cm rfl (Ch.nil (Fin.go (Tr.seq (Tr.seq (Tr.reg0 (cm rfl (co rfl (ki rfl rfl rfl rfl) (cm rfl ?_))))))))))
 refine Ch.cs 9 rfl ?_ ?_ <;> intro h1 q1
 exfalso; have := q1; omega
 refine cym h1 rfl (cym h1 rfl (cy h1 rfl (okp_nilCheck rfl (vl rfl)) (cy h1 rfl (ok_rd 0 rfl (rd_load1 rfl one33 (vl rfl) rfl)) (cy h1 rfl (ok_rd 1 rfl (rd_lenW rfl Tryz.underlying33 (vl rfl))) (cy h1 rfl (ki rfl rfl rfl rfl) (co rfl (kpf rfl rfl h1 rfl) (Ch.nil (Fin.go ?_))))))))
 refine Tr.cn rfl ?_ ?_ <;> intro h2 q2
 exfalso; simp_all; omega
 refine Tr.skip (Fin.go (Tr.seq (Tr.regX mixed [none, none, none, some (0, 0, false, 0), none, none, none, some (0, 1, true, 0), none, some (0, 0, true, 0)] (by kernel_rfl) (xm rfl (xm rfl (xo rfl (fun _ => okp_nilCheck rfl (vl rfl)) (xrd 0 rfl rfl (rd_load1 rfl one33 (vl rfl) rfl) (xm rfl (xo rfl (fun _ => ok_loadA rfl agg47 sz47 (vl rfl) rfl rfl) (xo rfl (fun _ => ok_buildSlice (xs := [.tmp 22]) (rows := [_]) rfl rfl Tryz.underlying33 sz47 z47 rfl (by decide) ⟨⟨(by exact rfl), (VL.le (vl rfl) (agg_cellsP _))⟩, trivial⟩ (by decide)) ?_))))))))))
 refine Cx.ef 1 rfl rfl (by decide) (ef_callc rfl rfl (by decide) rfl (w_InsWn (l := e.ids) (x := x) (i := at_.toNat) (by omega) hl) ⟨ke rfl, ⟨_, rfl, int_eq (by omega)⟩, ⟨_, rfl, full_le _ _⟩, trivial⟩) ?_
 refine xo rfl (fun _ => okp_nilCheck rfl (vl rfl)) (Cx.ef0 0 rfl rfl (ef_store rfl rfl (vl rfl) (VL.le (vl rfl) (one_cellsP _)) sz33 rfl (by exact Nat.le_of_ble_eq_true rfl) rfl) ?_)
 refine Cx.nil ⟨rfl, ?_⟩
 refine FinX.done (AllC.cons (AllC.cons (AllC.cons (AllC.map _)))) (Fin.go (Tr.weak [] trivial (Tr.seq (Tr.reg0 (cm rfl (Ch.nil (Fin.go (Tr.ret (Fin.drop 1 (Fin.retD rfl (RVal.tmp rfl (Pr.le_refl _)) ?_ (List.Perm.refl _)))))))))))
 · exact Pr.le_refl _
theorem FunD.perm {P : Program} {f : FuncId} {args : List Pr} {pre post post' : List Res} {res : Pr} (h : FunD P f args pre res post) (hp : post.Perm post') : FunD P f args pre res post' :=
  ⟨h.1, fun M0 w0 S rs M w vs hI hv => (h.2 M0 w0 S rs M w vs hI hv).mono fun _e _w' ⟨v, M', x, h1, h2, h3, h4, h5⟩ => ⟨v, M', x, h1, h2, h3, h4, HpH.perm (hp.append_right rs) h5⟩⟩

set_option maxRecDepth 20000 in
theorem w_addIdnR {e : Ept} {c b : Chg} {wb ob : Nat} {v : Value}  (hx : c.idn.small) (hr : ¬ (0 ≤ c.at_ ∧ c.at_ ≤ (e.ids.length : Nat))) : FunD Tryz.prog 145 [ptr wb 0] [resW wb ob c b, resO ob e (ints e.suites) (is v) (ints e.anchors) (ints e.hashes), oweRes 47 4 (e.ids.map rowId) v] (int 2) [] := by
 refine FunD.of Tryz.func145 rfl rfl (by exact Nat.le_of_ble_eq_true rfl) fun M0 w0 S rs M1 w1 => (Tr.seq (Tr.reg0 (cm rfl (Ch.nil (Fin.go (Tr.seq (Tr.regT (tm rfl (tm rfl (tp rfl (okp_nilCheck rfl (vl rfl)) (tp rfl (okp_fieldAddr rfl fo147_1 (vl rfl)) (tp rfl (okp_fieldAddr rfl fo49_4 (vl rfl)) (tp rfl (okp_fieldAddr rfl fo47_1 (vl rfl)) ?_)))))))))))))
 refine TO.rd 0 rfl rfl rfl (by decide) (rd_load1 rfl one3 (vl rfl) rfl) ?_
 refine TO.callD _ rfl rfl (by decide) rfl (w_idn (e := e) (c := c) (b := b) (key := c.idn.keyId) rfl rfl rfl) ⟨ke rfl, ke rfl, trivial⟩ ((perm_at (j := 0) rfl).trans (List.Perm.cons _ ((perm_at (j := 0) rfl).trans (List.Perm.cons _ ((perm_at (j := 0) rfl).trans (List.Perm.cons _ (List.Perm.refl _))))))) ?_
 refine tp rfl (ki rfl rfl rfl rfl) (tm rfl (TO.nil (Fin.go (Tr.seq (Tr.seq (Tr.regOne mixed 17 (by kernel_rfl) (ChOne.op rfl rfl (by decide) (ok_move rfl (vl rfl)) (ChOne.op rfl rfl (by decide) (okp_nilCheck rfl (vl rfl)) (ChOne.op rfl rfl (by decide) (okp_fieldAddr rfl fo147_0 (vl rfl)) (ChOne.op rfl rfl (by decide) (ok_rd 0 rfl (rd_load1 rfl one145 (vl rfl) rfl)) (ChOne.op rfl rfl (by decide) (okp_nilCheck rfl (vl rfl)) (ChOne.op rfl rfl (by decide) (okp_fieldAddr rfl fo35_5 (vl rfl)) (ChOne.op rfl rfl (by decide) (ok_move rfl (vl rfl)) ?_)))))))))))))
 refine ChOne.op rfl rfl (by decide) (okp_nilCheck rfl (vl rfl)) (ChOne.op rfl rfl (by decide) (okp_fieldAddr rfl fo147_1 (vl rfl)) (ChOne.op rfl rfl (by decide) (okp_fieldAddr rfl fo49_3 (vl rfl)) (ChOne.op rfl rfl (by decide) (ok_rd 0 rfl (rd_load1 rfl one3 (vl rfl) rfl)) (ChOne.op rfl rfl (by decide) (ok_move rfl (vl rfl)) (ChOne.op rfl rfl (by decide) (okp_nilCheck rfl (vl rfl)) (ChOne.op rfl rfl (by decide) (okp_fieldAddr rfl fo147_1 (vl rfl)) (ChOne.op rfl rfl (by decide) (okp_fieldAddr rfl fo49_4 (vl rfl)) (ChOne.op rfl rfl (by decide) (ok_rd 0 rfl (rd_loadA rfl agg47 sz47 (vl rfl) rfl rfl)) ?_))))))))
 refine ChOne.op rfl rfl (by decide) (ok_call rfl (w_copyId (x := c.idn) hx) ⟨ke rfl, trivial⟩) ?_
 refine ChOne.turn _ rfl (by decide) (turn_call _ rfl rfl (w_insNBad (e := e) (x := c.idn) (at_ := c.at_) hr) ⟨ke rfl, ke rfl, ke rfl, trivial⟩ ((perm_at (j := 1) rfl).trans (List.Perm.cons _ ((perm_at (j := 1) rfl).trans (List.Perm.cons _ (List.Perm.refl _)))))) ?_
 refine cm rfl (Ch.nil (Fin.go (wk3 0 3 4 rfl (Tr.seq (Tr.reg0 (cm rfl (co rfl (ki rfl rfl rfl rfl) (Ch.nil (Fin.go ?_)))))))))
 refine Tr.cn rfl ?_ ?_ <;> intro h1 q1
 refine Tr.seq (Tr.reg0 (cm rfl (cm rfl (Ch.nil (Fin.go (Tr.ret (Fin.then_ret (Fin.drop 0 (Fin.retD rfl (RVal.tmp rfl (Pr.le_refl _)) ?_ (List.Perm.refl _))))))))))
 · exact Pr.le_refl _
 exact absurd h1 (by decide)
set_option maxRecDepth 20000 in
theorem w_addIdnT {e : Ept} {c b : Chg} {wb ob : Nat} {v : Value}  (hx : c.idn.small) (hr : 0 ≤ c.at_ ∧ c.at_ ≤ (e.ids.length : Nat)) (hl : e.ids.length ≤ 1000000) (h : 0 ≤ keyIdx c.idn.keyId e.ids) : FunD Tryz.prog 145 [ptr wb 0] [resW wb ob c b, resO ob e (ints e.suites) (is v) (ints e.anchors) (ints e.hashes), oweRes 47 4 (e.ids.map rowId) v] (int 41) [] := by
 refine FunD.of Tryz.func145 rfl rfl (by exact Nat.le_of_ble_eq_true rfl) fun M0 w0 S rs M1 w1 => (Tr.seq (Tr.reg0 (cm rfl (Ch.nil (Fin.go (Tr.seq (Tr.regT (tm rfl (tm rfl (tp rfl (okp_nilCheck rfl (vl rfl)) (tp rfl (okp_fieldAddr rfl fo147_1 (vl rfl)) (tp rfl (okp_fieldAddr rfl fo49_4 (vl rfl)) (tp rfl (okp_fieldAddr rfl fo47_1 (vl rfl)) ?_)))))))))))))
 refine TO.rd 0 rfl rfl rfl (by decide) (rd_load1 rfl one3 (vl rfl) rfl) ?_
 refine TO.callD _ rfl rfl (by decide) rfl (w_idn (e := e) (c := c) (b := b) (key := c.idn.keyId) rfl rfl rfl) ⟨ke rfl, ke rfl, trivial⟩ ((perm_at (j := 0) rfl).trans (List.Perm.cons _ ((perm_at (j := 0) rfl).trans (List.Perm.cons _ ((perm_at (j := 0) rfl).trans (List.Perm.cons _ (List.Perm.refl _))))))) ?_
 refine tp rfl (ki rfl rfl rfl rfl) (tm rfl (TO.nil (Fin.go (Tr.seq (Tr.seq (Tr.regOne mixed 17 (by kernel_rfl) (ChOne.op rfl rfl (by decide) (ok_move rfl (vl rfl)) (ChOne.op rfl rfl (by decide) (okp_nilCheck rfl (vl rfl)) (ChOne.op rfl rfl (by decide) (okp_fieldAddr rfl fo147_0 (vl rfl)) (ChOne.op rfl rfl (by decide) (ok_rd 0 rfl (rd_load1 rfl one145 (vl rfl) rfl)) (ChOne.op rfl rfl (by decide) (okp_nilCheck rfl (vl rfl)) (ChOne.op rfl rfl (by decide) (okp_fieldAddr rfl fo35_5 (vl rfl)) (ChOne.op rfl rfl (by decide) (ok_move rfl (vl rfl)) ?_)))))))))))))
 refine ChOne.op rfl rfl (by decide) (okp_nilCheck rfl (vl rfl)) (ChOne.op rfl rfl (by decide) (okp_fieldAddr rfl fo147_1 (vl rfl)) (ChOne.op rfl rfl (by decide) (okp_fieldAddr rfl fo49_3 (vl rfl)) (ChOne.op rfl rfl (by decide) (ok_rd 0 rfl (rd_load1 rfl one3 (vl rfl) rfl)) (ChOne.op rfl rfl (by decide) (ok_move rfl (vl rfl)) (ChOne.op rfl rfl (by decide) (okp_nilCheck rfl (vl rfl)) (ChOne.op rfl rfl (by decide) (okp_fieldAddr rfl fo147_1 (vl rfl)) (ChOne.op rfl rfl (by decide) (okp_fieldAddr rfl fo49_4 (vl rfl)) (ChOne.op rfl rfl (by decide) (ok_rd 0 rfl (rd_loadA rfl agg47 sz47 (vl rfl) rfl rfl)) ?_))))))))
 refine ChOne.op rfl rfl (by decide) (ok_call rfl (w_copyId (x := c.idn) hx) ⟨ke rfl, trivial⟩) ?_
 refine ChOne.turn _ rfl (by decide) (turn_call _ rfl rfl (w_insNOk (e := e) (x := c.idn) (at_ := c.at_) hr hl) ⟨ke rfl, ke rfl, ke rfl, trivial⟩ ((perm_at (j := 1) rfl).trans (List.Perm.cons _ ((perm_at (j := 1) rfl).trans (List.Perm.cons _ (List.Perm.refl _)))))) ?_
 refine cm rfl (Ch.nil (Fin.go (wk3 0 3 4 rfl (Tr.seq (Tr.reg0 (cm rfl (co rfl (ki rfl rfl rfl rfl) (Ch.nil (Fin.go ?_)))))))))
 refine Tr.cn rfl ?_ ?_ <;> intro h1 q1
 exact absurd h1 (by decide)
 refine Tr.skip (Fin.go (Tr.seq (Tr.seq (Tr.reg0 (cm rfl (Ch.nil (Fin.go ?_)))))))
 refine Tr.cn rfl ?_ ?_ <;> intro h2 q2
 refine Tr.seq (Tr.reg0 (cm rfl (Ch.nil (Fin.go (Tr.ret (Fin.then_ret (Fin.drop 0 (Fin.drop 0 (Fin.retD rfl (RVal.tmp rfl (Pr.le_refl _)) ?_ (List.Perm.refl _))))))))))
 · exact Pr.le_refl _
 exfalso; have := q2; omega
set_option maxRecDepth 20000 in
theorem w_addIdnY {e : Ept} {c b : Chg} {wb ob : Nat} {v : Value}  (hx : c.idn.small) (hr : 0 ≤ c.at_ ∧ c.at_ ≤ (e.ids.length : Nat)) (hl : e.ids.length ≤ 1000000) (h : keyIdx c.idn.keyId e.ids < 0) : FunD Tryz.prog 145 [ptr wb 0] [resW wb ob c b, resO ob e (ints e.suites) (is v) (ints e.anchors) (ints e.hashes), oweRes 47 4 (e.ids.map rowId) v] (int 0) [resO ob e (ints e.suites) (idns (e.ids.take c.at_.toNat ++ [c.idn] ++ e.ids.drop c.at_.toNat)) (ints e.anchors) (ints e.hashes), resW wb ob c ⟨b.endpoint, 6, c.idn.keyId, b.at_, b.idn⟩] := by
 refine FunD.of Tryz.func145 rfl rfl (by exact Nat.le_of_ble_eq_true rfl) fun M0 w0 S rs M1 w1 => (Tr.seq (Tr.reg0 (cm rfl (Ch.nil (Fin.go (Tr.seq (Tr.regT (tm rfl (tm rfl (tp rfl (okp_nilCheck rfl (vl rfl)) (tp rfl (okp_fieldAddr rfl fo147_1 (vl rfl)) (tp rfl (okp_fieldAddr rfl fo49_4 (vl rfl)) (tp rfl (okp_fieldAddr rfl fo47_1 (vl rfl)) ?_)))))))))))))
 refine TO.rd 0 rfl rfl rfl (by decide) (rd_load1 rfl one3 (vl rfl) rfl) ?_
 refine TO.callD _ rfl rfl (by decide) rfl (w_idn (e := e) (c := c) (b := b) (key := c.idn.keyId) rfl rfl rfl) ⟨ke rfl, ke rfl, trivial⟩ ((perm_at (j := 0) rfl).trans (List.Perm.cons _ ((perm_at (j := 0) rfl).trans (List.Perm.cons _ ((perm_at (j := 0) rfl).trans (List.Perm.cons _ (List.Perm.refl _))))))) ?_
 refine tp rfl (ki rfl rfl rfl rfl) (tm rfl (TO.nil (Fin.go (Tr.seq (Tr.seq (Tr.regOne mixed 17 (by kernel_rfl) (ChOne.op rfl rfl (by decide) (ok_move rfl (vl rfl)) (ChOne.op rfl rfl (by decide) (okp_nilCheck rfl (vl rfl)) (ChOne.op rfl rfl (by decide) (okp_fieldAddr rfl fo147_0 (vl rfl)) (ChOne.op rfl rfl (by decide) (ok_rd 0 rfl (rd_load1 rfl one145 (vl rfl) rfl)) (ChOne.op rfl rfl (by decide) (okp_nilCheck rfl (vl rfl)) (ChOne.op rfl rfl (by decide) (okp_fieldAddr rfl fo35_5 (vl rfl)) (ChOne.op rfl rfl (by decide) (ok_move rfl (vl rfl)) ?_)))))))))))))
 refine ChOne.op rfl rfl (by decide) (okp_nilCheck rfl (vl rfl)) (ChOne.op rfl rfl (by decide) (okp_fieldAddr rfl fo147_1 (vl rfl)) (ChOne.op rfl rfl (by decide) (okp_fieldAddr rfl fo49_3 (vl rfl)) (ChOne.op rfl rfl (by decide) (ok_rd 0 rfl (rd_load1 rfl one3 (vl rfl) rfl)) (ChOne.op rfl rfl (by decide) (ok_move rfl (vl rfl)) (ChOne.op rfl rfl (by decide) (okp_nilCheck rfl (vl rfl)) (ChOne.op rfl rfl (by decide) (okp_fieldAddr rfl fo147_1 (vl rfl)) (ChOne.op rfl rfl (by decide) (okp_fieldAddr rfl fo49_4 (vl rfl)) (ChOne.op rfl rfl (by decide) (ok_rd 0 rfl (rd_loadA rfl agg47 sz47 (vl rfl) rfl rfl)) ?_))))))))
 refine ChOne.op rfl rfl (by decide) (ok_call rfl (w_copyId (x := c.idn) hx) ⟨ke rfl, trivial⟩) ?_
 refine ChOne.turn _ rfl (by decide) (turn_call _ rfl rfl (w_insNOk (e := e) (x := c.idn) (at_ := c.at_) hr hl) ⟨ke rfl, ke rfl, ke rfl, trivial⟩ ((perm_at (j := 1) rfl).trans (List.Perm.cons _ ((perm_at (j := 1) rfl).trans (List.Perm.cons _ (List.Perm.refl _)))))) ?_
 refine cm rfl (Ch.nil (Fin.go (wk3 0 3 4 rfl (Tr.seq (Tr.reg0 (cm rfl (co rfl (ki rfl rfl rfl rfl) (Ch.nil (Fin.go ?_)))))))))
 refine Tr.cn rfl ?_ ?_ <;> intro h1 q1
 exact absurd h1 (by decide)
 refine Tr.skip (Fin.go (Tr.seq (Tr.seq (Tr.reg0 (cm rfl (Ch.nil (Fin.go ?_)))))))
 refine Tr.cn rfl ?_ ?_ <;> intro h2 q2
 exfalso; have := q2; omega
 refine Tr.skip (Fin.go (Tr.seq (Tr.regT (tm rfl (tm rfl (tm rfl (tp rfl (okp_nilCheck rfl (vl rfl)) (tp rfl (okp_fieldAddr rfl fo147_1 (vl rfl)) (tp rfl (okp_fieldAddr rfl fo49_4 (vl rfl)) (tp rfl (okp_fieldAddr rfl fo47_1 (vl rfl)) (TO.rd 1 rfl rfl rfl (by decide) (rd_load1 rfl one3 (vl rfl) rfl) (tp rfl (okp_nilCheck rfl (vl rfl)) (tp rfl (okp_fieldAddr rfl fo147_2 (vl rfl)) ?_)))))))))))))
 refine tp rfl (okp_fieldAddr rfl fo49_1 (vl rfl)) (TO.ef0 1 rfl rfl (ef_store rfl rfl (vl rfl) (VL.le (vl rfl) (one_cellsP _)) sz3 rfl (by exact Nat.le_of_ble_eq_true rfl) rfl) (tp rfl (okp_nilCheck rfl (vl rfl)) (tp rfl (okp_fieldAddr rfl fo147_2 (vl rfl)) (tp rfl (okp_fieldAddr rfl fo49_2 (vl rfl)) (TO.ef0 1 rfl rfl (ef_store rfl rfl (vl rfl) (VL.le (vl rfl) (one_cellsP _)) sz3 rfl (by exact Nat.le_of_ble_eq_true rfl) rfl) (TO.nil (Fin.go (Tr.weak [] trivial (Tr.seq (Tr.reg0 (cm rfl (Ch.nil (Fin.go (Tr.ret ?_))))))))))))))
 refine Fin.retD rfl (RVal.tmp rfl (Pr.le_refl _)) ?_ (List.Perm.refl _)
 · exact Pr.le_refl _
set_option maxRecDepth 20000 in
theorem w_dropIdnN {e : Ept} {c b : Chg} {wb ob : Nat} {v : Value} {x : Idn}  (h : keyIdx c.number e.ids < 0) : FunD Tryz.prog 146 [ptr wb 0] [resW wb ob c b, resO ob e (ints e.suites) (is v) (ints e.anchors) (ints e.hashes), oweRes 47 4 (e.ids.map rowId) v] (int 41) [] := by
 refine FunD.of Tryz.func146 rfl rfl (by exact Nat.le_of_ble_eq_true rfl) fun M0 w0 S rs M1 w1 => (Tr.seq (Tr.reg0 (co rfl (ok_box rfl (VL.le (vl rfl) (one_cellsP _))) (cm rfl (Ch.nil (Fin.go (Tr.seq (Tr.regOne mixed 6 (by kernel_rfl) (ChOne.op rfl rfl (by decide) (kl1 rfl one144 rfl) (ChOne.op rfl rfl (by decide) (kl1 rfl one144 rfl) (ChOne.op rfl rfl (by decide) (okp_nilCheck rfl (vl rfl)) (ChOne.op rfl rfl (by decide) (okp_fieldAddr rfl fo147_1 (vl rfl)) (ChOne.op rfl rfl (by decide) (okp_fieldAddr rfl fo49_2 (vl rfl)) ?_)))))))))))))
 refine ChOne.op rfl rfl (by decide) (ok_rd 0 rfl (rd_load1 rfl one3 (vl rfl) rfl)) ?_
 refine ChOne.turn _ rfl (by decide) (turn_call _ rfl rfl (w_idn (e := e) (c := c) (b := b) (key := c.number) rfl rfl rfl) ⟨ke rfl, ke rfl, trivial⟩ ((perm_at (j := 0) rfl).trans (List.Perm.cons _ ((perm_at (j := 0) rfl).trans (List.Perm.cons _ ((perm_at (j := 0) rfl).trans (List.Perm.cons _ (List.Perm.refl _)))))))) ?_
 refine cm rfl (Ch.nil (Fin.go (Tr.seq (Tr.seq (Tr.reg0 (cm rfl (co rfl (ki rfl rfl rfl rfl) (Ch.nil (Fin.go ?_)))))))))
 refine Tr.cn rfl ?_ ?_ <;> intro h1 q1
 refine Tr.seq (Tr.reg0 (cm rfl (Ch.nil (Fin.go (Tr.ret (Fin.then_ret (Fin.drop 0 (Fin.drop 0 (Fin.drop 0 (Fin.retD rfl (RVal.tmp rfl (Pr.le_refl _)) ?_ (List.Perm.refl _)))))))))))
 · exact Pr.le_refl _
 exfalso; have := q1; omega
set_option maxRecDepth 20000 in
theorem w_dropIdnT {e : Ept} {c b : Chg} {wb ob : Nat} {v : Value} {x : Idn}  (h : 0 ≤ keyIdx c.number e.ids) (hx : e.ids[(keyIdx c.number e.ids).toNat]? = some x) (ht : ((e.ids.drop (keyIdx c.number e.ids + 1).toNat).any fun x => x.keyId == c.number) = true) (hl : e.ids.length ≤ 1000000) : FunD Tryz.prog 146 [ptr wb 0] [resW wb ob c b, resO ob e (ints e.suites) (is v) (ints e.anchors) (ints e.hashes), oweRes 47 4 (e.ids.map rowId) v] (int 5) [] := by
 refine FunD.of Tryz.func146 rfl rfl (by exact Nat.le_of_ble_eq_true rfl) fun M0 w0 S rs M1 w1 => ?_
 have hlt := lt_of_at hx
 refine Tr.seq (Tr.reg0 (co rfl (ok_box rfl (VL.le (vl rfl) (one_cellsP _))) (cm rfl (Ch.nil (Fin.go (Tr.seq (Tr.regOne mixed 6 (by kernel_rfl) (ChOne.op rfl rfl (by decide) (kl1 rfl one144 rfl) (ChOne.op rfl rfl (by decide) (kl1 rfl one144 rfl) (ChOne.op rfl rfl (by decide) (okp_nilCheck rfl (vl rfl)) (ChOne.op rfl rfl (by decide) (okp_fieldAddr rfl fo147_1 (vl rfl)) (ChOne.op rfl rfl (by decide) (okp_fieldAddr rfl fo49_2 (vl rfl)) (ChOne.op rfl rfl (by decide) (ok_rd 0 rfl (rd_load1 rfl one3 (vl rfl) rfl)) ?_)))))))))))))
 refine ChOne.turn _ rfl (by decide) (turn_call _ rfl rfl (w_idn (e := e) (c := c) (b := b) (key := c.number) rfl rfl rfl) ⟨ke rfl, ke rfl, trivial⟩ ((perm_at (j := 0) rfl).trans (List.Perm.cons _ ((perm_at (j := 0) rfl).trans (List.Perm.cons _ ((perm_at (j := 0) rfl).trans (List.Perm.cons _ (List.Perm.refl _)))))))) ?_
 refine cm rfl (Ch.nil (Fin.go (Tr.seq (Tr.seq (Tr.reg0 (cm rfl (co rfl (ki rfl rfl rfl rfl) (Ch.nil (Fin.go ?_)))))))))
 refine Tr.cn rfl ?_ ?_ <;> intro h1 q1
 exfalso; have := q1; omega
 refine Tr.skip (Fin.go (Tr.seq (Tr.seq (Tr.regT (tp rfl (kl1 rfl one144 rfl) (tp rfl (okp_nilCheck rfl (vl rfl)) (tp rfl (okp_fieldAddr rfl fo147_0 (vl rfl)) (TO.rd 0 rfl rfl rfl (by decide) (rd_load1 rfl one145 (vl rfl) rfl) (tp rfl (okp_nilCheck rfl (vl rfl)) (tp rfl (okp_fieldAddr rfl fo35_5 (vl rfl)) (TO.rd 1 rfl rfl rfl (by decide) (rd_load1 rfl one33 (vl rfl) rfl) (tm rfl ?_))))))))))))
 refine tp rfl (ok_add rfl (vl rfl) (vl rfl) ?hin) ?_; case hin => unfold InI; omega
 refine tp rfl (ok_rd 2 rfl (rd_part rfl Tryz.underlying33 sz47 (vl rfl) (vl rfl) (by omega) (by rw [List.length_map]; omega))) ?_
 refine tp rfl (ok_makeFunc rfl rfl) ?_
 refine TO.callD _ rfl rfl (by decide) rfl (w_twice (l := e.ids) (c := c) (b := b) (k := (keyIdx c.number e.ids + 1).toNat)) ⟨ke rfl, ke rfl, trivial⟩ ((perm_at (j := 0) rfl).trans (List.Perm.cons _ ((perm_at (j := 1) rfl).trans (List.Perm.cons _ (List.Perm.refl _))))) ?_
 refine TO.nil (Fin.go (wk3 1 3 24 rfl ?_))
 refine Tr.cn rfl ?_ ?_ <;> intro h2 q2
 refine Tr.seq (Tr.reg0 (cm rfl (Ch.nil (Fin.go (Tr.ret (Fin.then_ret (Fin.drop 0 (Fin.drop 0 (Fin.drop 0 (Fin.retD rfl (RVal.tmp rfl (Pr.le_refl _)) ?_ (List.Perm.refl _)))))))))))
 · exact Pr.le_refl _
 rw [ht] at h2; exact absurd h2 (by decide)
set_option maxRecDepth 20000 in
theorem w_dropIdnY {e : Ept} {c b : Chg} {wb ob : Nat} {v : Value} {x : Idn}  (h : 0 ≤ keyIdx c.number e.ids) (hx : e.ids[(keyIdx c.number e.ids).toNat]? = some x) (ht : ((e.ids.drop (keyIdx c.number e.ids + 1).toNat).any fun x => x.keyId == c.number) = false) (hl : e.ids.length ≤ 1000000) : FunD Tryz.prog 146 [ptr wb 0] [resW wb ob c b, resO ob e (ints e.suites) (is v) (ints e.anchors) (ints e.hashes), oweRes 47 4 (e.ids.map rowId) v] (int 0) [resW wb ob c ⟨b.endpoint, 5, b.number, keyIdx c.number e.ids, x⟩, resO ob e (ints e.suites) (idns (e.ids.eraseIdx (keyIdx c.number e.ids).toNat)) (ints e.anchors) (ints e.hashes)] := by
 refine FunD.of Tryz.func146 rfl rfl (by exact Nat.le_of_ble_eq_true rfl) fun M0 w0 S rs M1 w1 => ?_
 have hlt := lt_of_at hx
 refine Tr.seq (Tr.reg0 (co rfl (ok_box rfl (VL.le (vl rfl) (one_cellsP _))) (cm rfl (Ch.nil (Fin.go (Tr.seq (Tr.regOne mixed 6 (by kernel_rfl) (ChOne.op rfl rfl (by decide) (kl1 rfl one144 rfl) (ChOne.op rfl rfl (by decide) (kl1 rfl one144 rfl) (ChOne.op rfl rfl (by decide) (okp_nilCheck rfl (vl rfl)) (ChOne.op rfl rfl (by decide) (okp_fieldAddr rfl fo147_1 (vl rfl)) (ChOne.op rfl rfl (by decide) (okp_fieldAddr rfl fo49_2 (vl rfl)) (ChOne.op rfl rfl (by decide) (ok_rd 0 rfl (rd_load1 rfl one3 (vl rfl) rfl)) ?_)))))))))))))
 refine ChOne.turn _ rfl (by decide) (turn_call _ rfl rfl (w_idn (e := e) (c := c) (b := b) (key := c.number) rfl rfl rfl) ⟨ke rfl, ke rfl, trivial⟩ ((perm_at (j := 0) rfl).trans (List.Perm.cons _ ((perm_at (j := 0) rfl).trans (List.Perm.cons _ ((perm_at (j := 0) rfl).trans (List.Perm.cons _ (List.Perm.refl _)))))))) ?_
 refine cm rfl (Ch.nil (Fin.go (Tr.seq (Tr.seq (Tr.reg0 (cm rfl (co rfl (ki rfl rfl rfl rfl) (Ch.nil (Fin.go ?_)))))))))
 refine Tr.cn rfl ?_ ?_ <;> intro h1 q1
 exfalso; have := q1; omega
 refine Tr.skip (Fin.go (Tr.seq (Tr.seq (Tr.regT (tp rfl (kl1 rfl one144 rfl) (tp rfl (okp_nilCheck rfl (vl rfl)) (tp rfl (okp_fieldAddr rfl fo147_0 (vl rfl)) (TO.rd 0 rfl rfl rfl (by decide) (rd_load1 rfl one145 (vl rfl) rfl) (tp rfl (okp_nilCheck rfl (vl rfl)) (tp rfl (okp_fieldAddr rfl fo35_5 (vl rfl)) (TO.rd 1 rfl rfl rfl (by decide) (rd_load1 rfl one33 (vl rfl) rfl) (tm rfl ?_))))))))))))
 refine tp rfl (ok_add rfl (vl rfl) (vl rfl) ?hin) ?_; case hin => unfold InI; omega
 refine tp rfl (ok_rd 2 rfl (rd_part rfl Tryz.underlying33 sz47 (vl rfl) (vl rfl) (by omega) (by rw [List.length_map]; omega))) ?_
 refine tp rfl (ok_makeFunc rfl rfl) ?_
 refine TO.callD _ rfl rfl (by decide) rfl (w_twice (l := e.ids) (c := c) (b := b) (k := (keyIdx c.number e.ids + 1).toNat)) ⟨ke rfl, ke rfl, trivial⟩ ((perm_at (j := 0) rfl).trans (List.Perm.cons _ ((perm_at (j := 1) rfl).trans (List.Perm.cons _ (List.Perm.refl _))))) ?_
 refine TO.nil (Fin.go (wk3 1 3 24 rfl ?_))
 refine Tr.cn rfl ?_ ?_ <;> intro h2 q2
 rw [ht] at h2; exact absurd h2 (by decide)
 refine Tr.skip (Fin.go (Tr.seq (Tr.regX mixed [none, none, none, none, none, none, none, some (0, 0, false, 0), none, none, some (0, 2, false, 0), none, some (0, 1, false, 0), some (0, 1, false, 0), none, none, none, some (0, 0, true, 0), none, none, none, some (0, 0, true, 0), none, none, none, some (0, 0, true, 0)] (by kernel_rfl) (xo rfl (fun _ => kl1 rfl one144 rfl) (xo rfl (fun _ => kl1 rfl one144 rfl) (xo rfl (fun _ => kl1 rfl one144 rfl) (xm rfl (xo rfl (fun _ => kl1 rfl one144 rfl) (xo rfl (fun _ => okp_nilCheck rfl (vl rfl)) (xo rfl (fun _ => okp_fieldAddr rfl fo147_0 (vl rfl)) (xrd 0 rfl rfl (rd_load1 rfl one145 (vl rfl) rfl) (xo rfl (fun _ => okp_nilCheck rfl (vl rfl)) (xo rfl (fun _ => okp_fieldAddr rfl fo35_5 (vl rfl)) ?_)))))))))))))
 refine xrd 2 rfl rfl (rd_load1 rfl one33 (vl rfl) rfl) (xm rfl ?_)
 refine xrd 1 rfl rfl (rd_elp rfl Tryz.underlying33 sz47 (vl rfl) (vl rfl) (by omega) (by rw [List.length_map]; omega)) ?_
 refine xrd 1 rfl rfl (rd_elload rfl agg47 sz47 (vl rfl) (map_rows fun _ => rfl) (by rw [List.getElem?_map, hx]; rfl)) ?_
 refine xo rfl (fun _ => okp_nilCheck rfl (vl rfl)) (xo rfl (fun _ => okp_fieldAddr rfl fo147_2 (vl rfl)) (xo rfl (fun _ => okp_fieldAddr rfl fo49_1 (vl rfl)) (Cx.ef0 0 rfl rfl (ef_store rfl rfl (vl rfl) (VL.le (vl rfl) (one_cellsP _)) sz3 rfl (by exact Nat.le_of_ble_eq_true rfl) rfl) (xo rfl (fun _ => okp_nilCheck rfl (vl rfl)) (xo rfl (fun _ => okp_fieldAddr rfl fo147_2 (vl rfl)) (xo rfl (fun _ => okp_fieldAddr rfl fo49_3 (vl rfl)) (Cx.ef0 0 rfl rfl (ef_store rfl rfl (vl rfl) (VL.le (vl rfl) (one_cellsP _)) sz3 rfl (by exact Nat.le_of_ble_eq_true rfl) rfl) (xo rfl (fun _ => okp_nilCheck rfl (vl rfl)) (xo rfl (fun _ => okp_fieldAddr rfl fo147_2 (vl rfl)) (xo rfl (fun _ => okp_fieldAddr rfl fo49_4 (vl rfl)) (Cx.ef0 0 rfl rfl (ef_store rfl rfl (vl rfl) (VL.le (vl rfl) (agg_cellsP _)) sz47 rfl (by exact Nat.le_of_ble_eq_true rfl) rfl) ?_)))))))))))
 refine Cx.nil ⟨rfl, ?_⟩
 refine FinX.done (AllC.cons (AllC.cons (AllC.cons (AllC.cons (AllC.map _))))) (Fin.go (wk2 1 3 rfl (Tr.seq (Tr.regX mixed [none, none, none, some (0, 0, false, 0), none, none, none, some (0, 0, false, 0), none, none, some (0, 2, false, 0), none, none, none, some (0, 1, true, 0), none, none, some (0, 2, true, 0)] (by kernel_rfl) (xo rfl (fun _ => kl1 rfl one144 rfl) (xo rfl (fun _ => okp_nilCheck rfl (vl rfl)) (xo rfl (fun _ => okp_fieldAddr rfl fo147_0 (vl rfl)) (xrd 0 rfl rfl (rd_load1 rfl one145 (vl rfl) rfl) (xo rfl (fun _ => kl1 rfl one144 rfl) (xo rfl (fun _ => okp_nilCheck rfl (vl rfl)) (xo rfl (fun _ => okp_fieldAddr rfl fo147_0 (vl rfl)) (xrd 0 rfl rfl (rd_load1 rfl one145 (vl rfl) rfl) (xo rfl (fun _ => okp_nilCheck rfl (vl rfl)) ?_)))))))))))))
 refine xo rfl (fun _ => okp_fieldAddr rfl fo35_5 (vl rfl)) (xrd 2 rfl rfl (rd_load1 rfl one33 (vl rfl) rfl) (xm rfl (xm rfl ?_)))
 refine xo rfl (fun _ => ok_add rfl (vl rfl) (vl rfl) ?hin) ?_; case hin => unfold InI; omega
 refine Cx.ef 1 rfl rfl (by decide) (ef_callc rfl rfl (by decide) rfl (w_DelWn (l := e.ids) (i := (keyIdx c.number e.ids).toNat) hlt hl) ⟨ke rfl, ⟨_, rfl, int_eq (by omega)⟩, ⟨_, rfl, int_eq (by omega)⟩, trivial⟩) ?_
 refine xo rfl (fun _ => okp_nilCheck rfl (vl rfl)) (xo rfl (fun _ => okp_fieldAddr rfl fo35_5 (vl rfl)) (Cx.ef0 2 rfl rfl (ef_store rfl rfl (vl rfl) (VL.le (vl rfl) (one_cellsP _)) sz33 rfl (by exact Nat.le_of_ble_eq_true rfl) rfl) ?_))
 refine Cx.nil ⟨rfl, ?_⟩
 refine FinX.done (AllC.cons (AllC.cons (AllC.cons (AllC.cons (AllC.map _))))) (Fin.go (Tr.weak [] trivial (Tr.seq (Tr.reg0 (cm rfl (Ch.nil (Fin.go (Tr.ret (Fin.drop 1 (Fin.retD rfl (RVal.tmp rfl (Pr.le_refl _)) ?_ (List.Perm.refl _)))))))))))
 · exact Pr.le_refl _
end Go.Proofs.YtflodcidhlmaaaaGreat
namespace Go.Proofs.YtflodcidhlmaaaaGreat
open Go Go.RowKit Cp

def kindsP : List Pr := [is .nilFunc, fn (.func 141) [], fn (.func 142) [], fn (.func 143) [], fn (.func 144) [], fn (.func 145) [], fn (.func 146) [], fn (.func 147) [], fn (.func 148) [], fn (.func 149) [], fn (.func 150) [], fn (.func 151) [], fn (.func 152) []]
def noneB (x : Idn) : Bool := decide (x.alg = 0 ∧ x.bits = 0) && x.keyId == 0 && (((x.chain.length : Nat) : Int) == 0)
def leanB (c : Chg) : Bool := if c.kind = 1 then noneB c.idn else if c.kind = 5 then c.number == 0 else c.at_ == 0 && noneB c.idn
/-- Its lists are of some length. -/
structure Ept.small (e : Ept) : Prop where
  suites : e.suites.length ≤ 1000000
  anchors : e.anchors.length ≤ 1000000
  hashes : e.hashes.length ≤ 1000000
  idl : e.ids.length ≤ 1000000
  ids : ∀ x ∈ e.ids, x.small

set_option maxRecDepth 20000 in
theorem w_CopyC {c : Chg} (hx : c.idn.small) : Fun Tryz.prog 109 [agg (rowChg c)] (agg (rowChg c)) := by
 refine Fun.of Tryz.func109 rfl rfl (by exact Nat.le_of_ble_eq_true rfl) fun M0 w0 => ?_
 refine Tr.seq (Tr.regT ?_)
 refine TO.boxm rfl rfl (by decide) rfl (VL.le (vl rfl) (agg_cellsP _)) (fun b1 => ?_)
 refine TO.alloc rfl rfl (by decide) rfl z49 zo49 (fun b2 => ?_)
 refine TO.nil (Fin.go (Tr.seq (Tr.regT (tp rfl (okp_fieldAddr rfl fo49_4 (vl rfl)) (TO.rd 1 rfl rfl rfl (by decide) (rd_loadA rfl agg47 sz47 (vl rfl) rfl rfl) ?_)))))
 refine tp rfl (ok_call rfl (w_copyId (x := c.idn) hx) ⟨ke rfl, trivial⟩) ?_
 refine tp rfl (okp_fieldAddr rfl fo49_4 (vl rfl)) (TO.ef0 1 rfl rfl (ef_store rfl rfl (vl rfl) (VL.le (vl rfl) (agg_cellsP _)) sz47 rfl (by exact Nat.le_of_ble_eq_true rfl) rfl) (TO.nil (Fin.go (Tr.seq (Tr.regT (TO.rd 1 rfl rfl rfl (by decide) (rd_loadA rfl agg49 sz49 (vl rfl) rfl rfl) (TO.store_all 0 rfl rfl rfl (vl rfl) (VL.le (vl rfl) (agg_cellsP _)) rfl sz49 rfl rfl (TO.nil (Fin.go (Tr.drop 1 (Tr.ret (Fin.retX1 rfl (RVal.cell 0 rfl rfl agg49 sz49 rfl (Pr.le_refl _)) ?_))))))))))))
 · exact Pr.le_refl _
set_option maxRecDepth 20000 in
theorem w_none {x : Idn}  : Fun Tryz.prog 140 [agg (rowId x)] (bool (noneB x)) := by
 refine Fun.of Tryz.func140 rfl rfl (by exact Nat.le_of_ble_eq_true rfl) fun M0 w0 => ?_
 refine Tr.seq (Tr.reg0 (co rfl (ok_box rfl (VL.le (vl rfl) (agg_cellsP _))) (cm rfl (Ch.nil (Fin.go (Tr.seq (Tr.reg0 (co rfl (kfa rfl fo47_0 rfl rfl) (co rfl (ok_loadA rfl agg44 sz44 (vl rfl) rfl rfl) (co rfl (ok_build (rows := []) rfl bl44 zo44 trivial rfl) (co rfl (ok_eq44 rfl (vl rfl) (vl rfl)) (cm rfl ?_))))))))))))
 refine Ch.cs 7 rfl ?_ ?_ <;> intro h1 q1
 refine cy h1 rfl (kfa rfl fo47_1 rfl rfl) (cy h1 rfl (kl1 rfl one3 rfl) (cy h1 rfl (ki rfl rfl rfl rfl) (co rfl (kpt rfl rfl h1 rfl) (cm rfl ?_))))
 refine Ch.cs 12 rfl ?_ ?_ <;> intro h2 q2
 refine cy h2 rfl (kfa rfl fo47_2 rfl rfl) (cy h2 rfl (kl1 rfl one45 rfl) (cy h2 rfl (ok_lenm rfl Tryz.underlying45 (vl rfl)) (cy h2 rfl (ki rfl rfl rfl rfl) (co rfl (kpt rfl rfl h2 rfl) (cm rfl (Ch.nil (Fin.go (wk1 2 rfl (Tr.ret (Fin.ret1 rfl (OutW.bse _ _) rfl ?_))))))))))
 · refine bool_eq ?_; unfold noneB; simp_all
 iterate 4 refine cnt h2 rfl ?_
 refine co rfl (kpf rfl rfl h2 rfl) (cm rfl (Ch.nil (Fin.go (wk1 2 rfl (Tr.ret (Fin.ret1 rfl (OutW.bse _ _) rfl ?_))))))
 · refine bool_eq ?_; unfold noneB; simp_all
 refine cnt h1 rfl (cnt h1 rfl (cnt h1 rfl (co rfl (kpf rfl rfl h1 rfl) (cm rfl ?_))))
 iterate 4 refine cnd rfl rfl ?_
 refine co rfl (kpf rfl rfl rfl rfl) (cm rfl (Ch.nil (Fin.go (wk1 2 rfl (Tr.ret (Fin.ret1 rfl (OutW.bse _ _) rfl ?_))))))
 · refine bool_eq ?_; unfold noneB; simp_all
set_option maxRecDepth 20000 in
theorem w_lean {c : Chg}  : Fun Tryz.prog 107 [agg (rowChg c)] (bool (leanB c)) := by
 refine Fun.of Tryz.func107 rfl rfl (by exact Nat.le_of_ble_eq_true rfl) fun M0 w0 => ?_
 refine Tr.seq (Tr.reg0 (co rfl (ok_box rfl (VL.le (vl rfl) (agg_cellsP _))) (cm rfl (Ch.nil (Fin.go (Tr.seq (Tr.seq (Tr.reg0 (co rfl (kfa rfl fo49_1 rfl rfl) (co rfl (kl1 rfl one3 rfl) (Ch.nil (Fin.go (Tr.block (Tr.seq ?_))))))))))))))
 refine Tr.reg0 (co rfl (ki rfl rfl rfl rfl) (cm rfl (Ch.nil (Fin.go ?_))))
 refine Tr.cn rfl ?_ ?_ <;> intro h1 q1
 refine Tr.seq (Tr.reg0 (co rfl (kfa rfl fo49_4 rfl rfl) (co rfl (ok_loadA rfl agg47 sz47 (vl rfl) rfl rfl) ?_)))
 refine co rfl (ok_call rfl (w_none (x := c.idn)) ⟨ke rfl, trivial⟩) ?_
 refine cm rfl (Ch.nil (Fin.go (Tr.ret (Fin.block_ret (Fin.then_ret (Fin.ret1 rfl (OutW.bse _ _) rfl ?_))))))
 · refine bool_eq ?_; unfold leanB; simp_all
 refine Tr.seq (Tr.reg0 (co rfl (ki rfl rfl rfl rfl) (cm rfl (Ch.nil (Fin.go ?_)))))
 refine Tr.cn rfl ?_ ?_ <;> intro h2 q2
 refine Tr.seq (Tr.reg0 (co rfl (kfa rfl fo49_2 rfl rfl) (co rfl (kl1 rfl one3 rfl) (co rfl (ki rfl rfl rfl rfl) (cm rfl (Ch.nil (Fin.go (Tr.ret (Fin.block_ret (Fin.then_ret (Fin.ret1 rfl (OutW.bse _ _) rfl ?_)))))))))))
 · refine bool_eq ?_; unfold leanB; simp_all
 refine Tr.skip (Fin.block (Fin.go (Tr.seq (Tr.reg0 (co rfl (kfa rfl fo49_3 rfl rfl) (co rfl (kl1 rfl one3 rfl) (co rfl (ki rfl rfl rfl rfl) (cm rfl ?_))))))))
 refine Ch.cs 18 rfl ?_ ?_ <;> intro h3 q3
 refine cy h3 rfl (kfa rfl fo49_4 rfl rfl) (cy h3 rfl (ok_loadA rfl agg47 sz47 (vl rfl) rfl rfl) ?_)
 refine cy h3 rfl (ok_call rfl (w_none (x := c.idn)) ⟨ke rfl, trivial⟩) ?_
 refine co rfl (kpt rfl rfl h3 rfl) (cm rfl (Ch.nil (Fin.go (wk1 2 rfl (Tr.ret (Fin.ret1 rfl (OutW.bse _ _) rfl ?_))))))
 · refine bool_eq ?_; unfold leanB; simp_all
 refine cnt h3 rfl (cnt h3 rfl (cnt h3 rfl (co rfl (kpf rfl rfl h3 rfl) (cm rfl (Ch.nil (Fin.go (wk1 2 rfl (Tr.ret (Fin.ret1 rfl (OutW.bse _ _) rfl ?_)))))))))
 · refine bool_eq ?_; unfold leanB; simp_all
set_option maxRecDepth 20000 in
theorem w_kinds   : Fun Tryz.prog 108 [] (agg kindsP) := by
 refine Fun.of Tryz.func108 rfl rfl (by exact Nat.le_of_ble_eq_true rfl) fun M0 w0 => ?_
 refine Tr.seq (Tr.regT ?_)
 refine TO.alloc rfl rfl (by decide) rfl z149 zo149 (fun b1 => ?_)
 refine TO.nil (Fin.go (Tr.seq (Tr.regT (tp rfl (ok_build (rows := [(1, [_]), (2, [_]), (3, [_]), (4, [_]), (5, [_]), (6, [_]), (7, [_]), (8, [_]), (9, [_]), (10, [_]), (11, [_]), (12, [_])]) rfl bl149 zo149 ⟨⟨rfl, (VL.le (vl rfl) (one_cellsP _))⟩, ⟨⟨rfl, (VL.le (vl rfl) (one_cellsP _))⟩, ⟨⟨rfl, (VL.le (vl rfl) (one_cellsP _))⟩, ⟨⟨rfl, (VL.le (vl rfl) (one_cellsP _))⟩, ⟨⟨rfl, (VL.le (vl rfl) (one_cellsP _))⟩, ⟨⟨rfl, (VL.le (vl rfl) (one_cellsP _))⟩, ⟨⟨rfl, (VL.le (vl rfl) (one_cellsP _))⟩, ⟨⟨rfl, (VL.le (vl rfl) (one_cellsP _))⟩, ⟨⟨rfl, (VL.le (vl rfl) (one_cellsP _))⟩, ⟨⟨rfl, (VL.le (vl rfl) (one_cellsP _))⟩, ⟨⟨rfl, (VL.le (vl rfl) (one_cellsP _))⟩, ⟨⟨rfl, (VL.le (vl rfl) (one_cellsP _))⟩, trivial⟩⟩⟩⟩⟩⟩⟩⟩⟩⟩⟩⟩ rfl) (TO.store_all 0 rfl rfl rfl (vl rfl) (VL.le (vl rfl) (agg_cellsP _)) rfl sz149 rfl rfl (TO.nil (Fin.go (Tr.ret (Fin.retX1 rfl (RVal.cell 0 rfl rfl agg149 sz149 rfl (Pr.le_refl _)) ?_)))))))))
 · exact Pr.le_refl _
set_option maxRecDepth 20000 in
set_option maxHeartbeats 1000000 in
theorem w_CopyEn {e : Ept} (hsm : e.small) : FunV Tryz.prog 96 [agg (rowEp e)] (fun x => agg (rowO e (ints e.suites) (is x) (ints e.anchors) (ints e.hashes))) (fun x => [oweRes 47 4 (e.ids.map rowId) x]) := by
 refine FunV.of Tryz.func96 rfl rfl (by exact Nat.le_of_ble_eq_true rfl) fun M0 w0 S rs M1 w1 => ?_
 have hs1 := hsm.suites
 have hs2 := hsm.anchors
 have hs3 := hsm.hashes
 have hs4 := hsm.idl
 refine Tr.seq (Tr.regT ?_)
 refine TO.boxm rfl rfl (by decide) rfl (VL.le (vl rfl) (agg_cellsP _)) (fun b1 => ?_)
 refine TO.alloc rfl rfl (by decide) rfl z35 zo35 (fun b2 => ?_)
 refine TO.nil (Fin.go (Tr.seq (Tr.pad (Tr.regX mixed [none, some (0, 2, false, 0), none, none, some (0, 2, false, 0), none, none, some (0, 2, false, 0), none, none, some (0, 2, false, 0), some (0, 0, true, 16), none, some (0, 2, true, 0), none, some (0, 2, true, 0), none, some (0, 2, true, 0), none, some (0, 2, true, 16)] (by kernel_rfl) (xo rfl (fun _ => okp_fieldAddr rfl fo35_3 (vl rfl)) (xrd 2 rfl rfl (rd_load1 rfl one22 (vl rfl) rfl) ?_))))))
 refine xo rfl (fun _ => ok_call rfl (w_CloneFi (l := e.suites) hs1) ⟨ke rfl, trivial⟩) ?_
 refine xo rfl (fun _ => okp_fieldAddr rfl fo35_6 (vl rfl)) (xrd 2 rfl rfl (rd_load1 rfl one22 (vl rfl) rfl) ?_)
 refine xo rfl (fun _ => ok_call rfl (w_CloneFi (l := e.anchors) hs2) ⟨ke rfl, trivial⟩) ?_
 refine xo rfl (fun _ => okp_fieldAddr rfl fo35_7 (vl rfl)) (xrd 2 rfl rfl (rd_load1 rfl one22 (vl rfl) rfl) ?_)
 refine xo rfl (fun _ => ok_call rfl (w_CloneFi (l := e.hashes) hs3) ⟨ke rfl, trivial⟩) ?_
 refine xo rfl (fun _ => okp_fieldAddr rfl fo35_5 (vl rfl)) (xrd 2 rfl rfl (rd_load1 rfl one33 (vl rfl) rfl) ?_)
 refine Cx.ef 0 rfl rfl (by decide) (ef_call rfl rfl (by decide) rfl (w_CloneWn (l := e.ids) hs4) ⟨ke rfl, trivial⟩) ?_
 refine xo rfl (fun _ => okp_fieldAddr rfl fo35_3 (vl rfl)) (Cx.ef0 2 rfl rfl (ef_store rfl rfl (vl rfl) (VL.le (vl rfl) (one_cellsP _)) sz22 rfl (by exact Nat.le_of_ble_eq_true rfl) rfl) (xo rfl (fun _ => okp_fieldAddr rfl fo35_6 (vl rfl)) (Cx.ef0 2 rfl rfl (ef_store rfl rfl (vl rfl) (VL.le (vl rfl) (one_cellsP _)) sz22 rfl (by exact Nat.le_of_ble_eq_true rfl) rfl) (xo rfl (fun _ => okp_fieldAddr rfl fo35_7 (vl rfl)) (Cx.ef0 2 rfl rfl (ef_store rfl rfl (vl rfl) (VL.le (vl rfl) (one_cellsP _)) sz22 rfl (by exact Nat.le_of_ble_eq_true rfl) rfl) (xo rfl (fun _ => okp_fieldAddr rfl fo35_5 (vl rfl)) (Cx.ef0 2 rfl rfl (ef_storeS rfl rfl rfl (vl rfl) rfl sz33 (by exact Nat.le_of_ble_eq_true rfl)) ?_)))))))
 refine Cx.nil ⟨rfl, ?_⟩
 refine FinX.open2 0 2 16 rfl rfl (by decide) rfl (fun v1 => ?_)
 refine FinX.done (AllC.cons (AllC.cons (AllC.cons (AllC.cons (AllC.map _))))) (Fin.go (wk2 1 2 rfl (Tr.seq (Tr.seq (Tr.reg0 (co rfl (okp_fieldAddr rfl fo35_5 (vl rfl)) (co rfl (ok_rd 2 rfl (rd_load1 rfl one33 (vl rfl) rfl)) (co rfl (ok_rd 0 rfl (rd_lenW rfl Tryz.underlying33 ⟨_, rfl, andIs_is _ _⟩)) (cm rfl (Ch.nil (Fin.go (Tr.block (Tr.re 23 rfl (int_eq (by rw [List.length_map])) (Tr.loopw [(1, _), (2, _), (22, _), (23, _)] (kk4 rfl) (fun k : Nat => [(24, int ((k : Nat) : Int))]) (fun k : Nat => k ≤ (e.ids).length) (fun k : Nat => (e.ids).length - k) 0 (Nat.zero_le _) ⟨ke rfl, trivial⟩ ?_))))))))))))))
 rintro k hle_k
 refine Tr.seq (Tr.reg0 (co rfl (ki rfl rfl rfl rfl) (Ch.nil (Fin.go (Tr.seq ?_)))))
 refine Tr.cn rfl ?_ ?_ <;> intro h1 q1
 have hk_k : k < (e.ids).length := lt_of_dec h1
 obtain ⟨x, hx_k⟩ := at_ hk_k
 have hxs := hsm.ids x (List.mem_of_getElem? hx_k)
 refine Tr.skip (Fin.go (Tr.seq (Tr.block (Tr.seq (Tr.regT (tm rfl ?_))))))
 refine tp rfl (ok_rd 0 rfl (rd_elp rfl Tryz.underlying33 sz47 ⟨_, rfl, andIs_is _ _⟩ (vl rfl) (by omega) (by rw [List.length_map]; omega))) ?_
 refine tp rfl (ok_rd 0 rfl (rd_elload rfl agg47 sz47 (vl rfl) (map_rows fun _ => rfl) (by rw [Int.toNat_natCast, List.getElem?_map, hx_k]; rfl))) ?_
 refine TO.alloc rfl rfl (by decide) rfl z47 zo47 (fun b3 => ?_)
 refine tm rfl (TO.store_all 0 rfl rfl rfl (vl rfl) (VL.le (vl rfl) (agg_cellsP _)) rfl sz47 rfl rfl (TO.freeze 0 4 rfl rfl (TO.nil (Fin.go (Tr.regX mixed [none, some (0, 2, false, 0), none, none, none, some (0, 0, false, 0), some (0, 0, true, 0)] (by kernel_rfl) (xo rfl (fun _ => okp_fieldAddr rfl fo35_5 (vl rfl)) (xrd 2 rfl rfl (rd_load1 rfl one33 (vl rfl) rfl) (xm rfl (xo rfl (fun _ => ok_loadA rfl agg47 sz47 (vl rfl) rfl rfl) (xo rfl (fun _ => ok_call rfl (w_copyId hxs) ⟨ke rfl, trivial⟩) ?_))))))))))
 refine xrd 0 rfl rfl (rd_elp rfl Tryz.underlying33 sz47 ⟨_, rfl, andIs_is _ _⟩ (vl rfl) (by omega) (by rw [List.length_map]; omega)) ?_
 refine Cx.ef0 0 rfl rfl (ef_elstore rfl rfl (vl rfl) (VL.le (vl rfl) (agg_cellsP _)) sz47 rfl (map_rows fun _ => rfl) (by rw [Int.toNat_natCast, List.getElem?_map, hx_k]; rfl) (by decide) (row_setI (f := rowId) (q := 0) (m := 4) hx_k rfl)) ?_
 refine Cx.nil ⟨rfl, ?_⟩
 refine FinX.done (AllC.cons (AllC.cons (AllC.cons (AllC.cons (AllC.map _))))) (Fin.block (Fin.go (wk5 1 2 22 23 24 rfl (Tr.reg0 (cad rfl rfl rfl rfl (by omega) (cm rfl (Ch.nil (Fin.fam_same (k + 1) ⟨hk_k, by omega⟩ ⟨⟨_, rfl, int_succ k⟩, ke rfl, ke rfl, ke rfl, ke rfl, trivial⟩))))))))
 have he_k : k = (e.ids).length := by have := ge_of_dec h1; omega
 subst he_k
 refine Tr.exit (Fin.then_exit (Fin.then_exit (Fin.block_here (Fin.go (Tr.seq (Tr.regT (TO.rd 2 rfl rfl rfl (by decide) (rd_loadA rfl agg35 sz35 (vl rfl) rfl rfl) (TO.store_all 1 rfl rfl rfl (vl rfl) (VL.le (vl rfl) (agg_cellsP _)) rfl sz35 rfl rfl (TO.nil (Fin.go (Tr.drop 2 (Tr.ret (Fin.swap01 (Fin.retV v1 [_] rfl (RVal.cell 0 rfl rfl agg35 sz35 rfl (Pr.le_refl _)) ?_ (List.Perm.refl _)))))))))))))))
 · exact agg_le ⟨Pr.le_refl _, Pr.le_refl _, Pr.le_refl _, Pr.le_refl _, Pr.le_refl _, andIs_is _ _, Pr.le_refl _, Pr.le_refl _, Pr.le_refl _, trivial⟩
set_option maxRecDepth 20000 in
set_option maxHeartbeats 1000000 in
theorem w_CopyEs {e : Ept} (hsm : e.small) : FunV Tryz.prog 96 [agg (rowEp e)] (fun x => agg (rowO e (is x) (idns e.ids) (ints e.anchors) (ints e.hashes))) (fun x => [oweRes 3 1 (e.suites.map fun n => [int n]) x]) := by
 refine FunV.of Tryz.func96 rfl rfl (by exact Nat.le_of_ble_eq_true rfl) fun M0 w0 S rs M1 w1 => ?_
 have hs1 := hsm.suites
 have hs2 := hsm.anchors
 have hs3 := hsm.hashes
 have hs4 := hsm.idl
 refine Tr.seq (Tr.regT ?_)
 refine TO.boxm rfl rfl (by decide) rfl (VL.le (vl rfl) (agg_cellsP _)) (fun b1 => ?_)
 refine TO.alloc rfl rfl (by decide) rfl z35 zo35 (fun b2 => ?_)
 refine TO.nil (Fin.go (Tr.seq (Tr.pad (Tr.pad (Tr.regX mixed [none, some (0, 3, false, 0), some (0, 0, true, 7), none, some (0, 3, false, 0), none, none, some (0, 3, false, 0), none, none, some (0, 3, false, 0), some (0, 1, true, 16), none, some (0, 3, true, 7), none, some (7, 3, true, 7), none, some (7, 3, true, 7), none, some (7, 3, true, .two 7 16)] (by kernel_rfl) (xo rfl (fun _ => okp_fieldAddr rfl fo35_3 (vl rfl)) (xrd 3 rfl rfl (rd_load1 rfl one22 (vl rfl) rfl) ?_)))))))
 refine Cx.ef 0 rfl rfl (by decide) (ef_call rfl rfl (by decide) rfl (w_CloneWi (l := e.suites) hs1) ⟨ke rfl, trivial⟩) ?_
 refine xo rfl (fun _ => okp_fieldAddr rfl fo35_6 (vl rfl)) (xrd 3 rfl rfl (rd_load1 rfl one22 (vl rfl) rfl) ?_)
 refine xo rfl (fun _ => ok_call rfl (w_CloneFi (l := e.anchors) hs2) ⟨ke rfl, trivial⟩) ?_
 refine xo rfl (fun _ => okp_fieldAddr rfl fo35_7 (vl rfl)) (xrd 3 rfl rfl (rd_load1 rfl one22 (vl rfl) rfl) ?_)
 refine xo rfl (fun _ => ok_call rfl (w_CloneFi (l := e.hashes) hs3) ⟨ke rfl, trivial⟩) ?_
 refine xo rfl (fun _ => okp_fieldAddr rfl fo35_5 (vl rfl)) (xrd 3 rfl rfl (rd_load1 rfl one33 (vl rfl) rfl) ?_)
 refine Cx.ef 1 rfl rfl (by decide) (ef_call rfl rfl (by decide) rfl (w_CloneWn (l := e.ids) hs4) ⟨ke rfl, trivial⟩) ?_
 refine xo rfl (fun _ => okp_fieldAddr rfl fo35_3 (vl rfl)) (Cx.ef0 3 rfl rfl (ef_storeS rfl rfl rfl (vl rfl) rfl sz22 (by exact Nat.le_of_ble_eq_true rfl)) (xo rfl (fun _ => okp_fieldAddr rfl fo35_6 (vl rfl)) (Cx.ef0 3 rfl rfl (ef_storeW rfl rfl rfl (vl rfl) (VL.le (vl rfl) (one_cellsP _)) sz22 rfl (fun _ => by exact Nat.le_of_ble_eq_true rfl)) (xo rfl (fun _ => okp_fieldAddr rfl fo35_7 (vl rfl)) (Cx.ef0 3 rfl rfl (ef_storeW rfl rfl rfl (vl rfl) (VL.le (vl rfl) (one_cellsP _)) sz22 rfl (fun _ => by exact Nat.le_of_ble_eq_true rfl)) (xo rfl (fun _ => okp_fieldAddr rfl fo35_5 (vl rfl)) (Cx.ef0 3 rfl rfl (ef_storeT rfl rfl rfl (vl rfl) rfl sz33 (fun _ => by exact Nat.le_of_ble_eq_true rfl)) ?_)))))))
 refine Cx.nil ⟨rfl, ?_⟩
 refine FinX.open3 0 1 3 7 16 rfl rfl rfl (by decide) (by decide) (by decide) (by decide) rfl rfl (fun v1 v2 => ?_)
 refine FinX.done (AllC.cons (AllC.cons (AllC.cons (AllC.cons (AllC.cons (AllC.map _)))))) (Fin.go (wk2 1 2 rfl (Tr.seq (Tr.seq (Tr.reg0 (co rfl (okp_fieldAddr rfl fo35_5 (vl rfl)) (co rfl (ok_rd 3 rfl (rd_load1 rfl one33 (vl rfl) rfl)) (co rfl (ok_rd 1 rfl (rd_lenW rfl Tryz.underlying33 ⟨_, rfl, andIs_is _ _⟩)) (cm rfl (Ch.nil (Fin.go (Tr.block (Tr.re 23 rfl (int_eq (by rw [List.length_map])) (Tr.loopw [(1, _), (2, _), (22, _), (23, _)] (kk4 rfl) (fun k : Nat => [(24, int ((k : Nat) : Int))]) (fun k : Nat => k ≤ (e.ids).length) (fun k : Nat => (e.ids).length - k) 0 (Nat.zero_le _) ⟨ke rfl, trivial⟩ ?_))))))))))))))
 rintro k hle_k
 refine Tr.seq (Tr.reg0 (co rfl (ki rfl rfl rfl rfl) (Ch.nil (Fin.go (Tr.seq ?_)))))
 refine Tr.cn rfl ?_ ?_ <;> intro h1 q1
 have hk_k : k < (e.ids).length := lt_of_dec h1
 obtain ⟨x, hx_k⟩ := at_ hk_k
 have hxs := hsm.ids x (List.mem_of_getElem? hx_k)
 refine Tr.skip (Fin.go (Tr.seq (Tr.block (Tr.seq (Tr.regT (tm rfl ?_))))))
 refine tp rfl (ok_rd 1 rfl (rd_elp rfl Tryz.underlying33 sz47 ⟨_, rfl, andIs_is _ _⟩ (vl rfl) (by omega) (by rw [List.length_map]; omega))) ?_
 refine tp rfl (ok_rd 1 rfl (rd_elload rfl agg47 sz47 (vl rfl) (map_rows fun _ => rfl) (by rw [Int.toNat_natCast, List.getElem?_map, hx_k]; rfl))) ?_
 refine TO.alloc rfl rfl (by decide) rfl z47 zo47 (fun b3 => ?_)
 refine tm rfl (TO.store_all 0 rfl rfl rfl (vl rfl) (VL.le (vl rfl) (agg_cellsP _)) rfl sz47 rfl rfl (TO.freeze 0 4 rfl rfl (TO.nil (Fin.go (Tr.regX mixed [none, some (0, 3, false, 0), none, none, none, some (0, 1, false, 0), some (0, 1, true, 0)] (by kernel_rfl) (xo rfl (fun _ => okp_fieldAddr rfl fo35_5 (vl rfl)) (xrd 3 rfl rfl (rd_load1 rfl one33 (vl rfl) rfl) (xm rfl (xo rfl (fun _ => ok_loadA rfl agg47 sz47 (vl rfl) rfl rfl) (xo rfl (fun _ => ok_call rfl (w_copyId hxs) ⟨ke rfl, trivial⟩) ?_))))))))))
 refine xrd 1 rfl rfl (rd_elp rfl Tryz.underlying33 sz47 ⟨_, rfl, andIs_is _ _⟩ (vl rfl) (by omega) (by rw [List.length_map]; omega)) ?_
 refine Cx.ef0 1 rfl rfl (ef_elstore rfl rfl (vl rfl) (VL.le (vl rfl) (agg_cellsP _)) sz47 rfl (map_rows fun _ => rfl) (by rw [Int.toNat_natCast, List.getElem?_map, hx_k]; rfl) (by decide) (row_setI (f := rowId) (q := 0) (m := 4) hx_k rfl)) ?_
 refine Cx.nil ⟨rfl, ?_⟩
 refine FinX.done (AllC.cons (AllC.cons (AllC.cons (AllC.cons (AllC.cons (AllC.map _)))))) (Fin.block (Fin.go (wk5 1 2 22 23 24 rfl (Tr.reg0 (cad rfl rfl rfl rfl (by omega) (cm rfl (Ch.nil (Fin.fam_same (k + 1) ⟨hk_k, by omega⟩ ⟨⟨_, rfl, int_succ k⟩, ke rfl, ke rfl, ke rfl, ke rfl, trivial⟩))))))))
 have he_k : k = (e.ids).length := by have := ge_of_dec h1; omega
 subst he_k
 refine Tr.exit (Fin.then_exit (Fin.then_exit (Fin.block_here (Fin.go (Tr.seq (Tr.frzWC 3 1 5 rfl rfl (by decide) rfl (andIs_is _ _) (map_rows fun _ => rfl) (Tr.regT (TO.rd 3 rfl rfl rfl (by decide) (rd_loadA rfl agg35 sz35 (vl rfl) rfl rfl) (TO.store_all 2 rfl rfl rfl (vl rfl) (VL.le (vl rfl) (agg_cellsP _)) rfl sz35 rfl rfl (TO.nil (Fin.go (Tr.drop 1 (Tr.drop 2 (Tr.ret ?_))))))))))))))
 refine Fin.swap01 (Fin.retV v1 [_] rfl (RVal.cell 0 rfl rfl agg35 sz35 rfl (Pr.le_refl _)) ?_ (List.Perm.refl _))
 · exact agg_le ⟨Pr.le_refl _, Pr.le_refl _, Pr.le_refl _, andIs_is _ _, Pr.le_refl _, Pr.le_refl _, Pr.le_refl _, Pr.le_refl _, Pr.le_refl _, trivial⟩
end Go.Proofs.YtflodcidhlmaaaaGreat
namespace Go.Proofs.YtflodcidhlmaaaaGreat
open Go Go.RowKit Cp

def zeroEp : Ept := ⟨[], 0, 0, [], false, [], [], [], false⟩
def zeroId : Idn := ⟨0, 0, 0, []⟩
def zeroChg : Chg := ⟨0, 0, 0, 0, zeroId⟩
abbrev back0 (c : Chg) : Chg := ⟨c.endpoint, 0, 0, 0, zeroId⟩

set_option maxRecDepth 20000 in
set_option maxHeartbeats 1000000 in
theorem w_donenE {e e2 : Ept} {c b : Chg} {fk : Nat} {err : Int} (hf : e.fits) (hsm : e.small) (hce : eptB e = true) (hk : 1 ≤ c.kind ∧ c.kind ≤ 12) (hlean : leanB c = true) (hkp : kindsP[c.kind.toNat]? = some (fn (.func fk) [])) (he : err ≠ 0) (hm : ∀ (wb ob : Nat) (v : Value), FunD Tryz.prog fk [ptr wb 0] [resW wb ob c (back0 c), resO ob e (ints e.suites) (is v) (ints e.anchors) (ints e.hashes), oweRes 47 4 (e.ids.map rowId) v] (int err) []) : Fun Tryz.prog 64 [agg (rowEp e), agg (rowChg c)] (tup [agg (rowEp zeroEp), agg (rowChg zeroChg), int err]) := by
 refine Fun.of Tryz.func64 rfl rfl (by exact Nat.le_of_ble_eq_true rfl) fun M0 w0 => ?_
 refine Tr.seq (Tr.regT (tp rfl (ok_box rfl (VL.le (vl rfl) (agg_cellsP _))) (tp rfl (ok_box rfl (VL.le (vl rfl) (agg_cellsP _))) ?_)))
 refine TO.alloc rfl rfl (by decide) rfl z35 zo35 (fun b1 => ?_)
 refine TO.alloc rfl rfl (by decide) rfl z49 zo49 (fun b2 => ?_)
 refine tm rfl (TO.nil (Fin.go (Tr.seq (Tr.seq (Tr.reg0 (co rfl (ok_loadA rfl agg35 sz35 (vl rfl) rfl rfl) (co rfl (ok_call rfl (w_ECheck hf) ⟨ke rfl, trivial⟩) (co rfl (ki rfl rfl rfl rfl) (Ch.nil (Fin.go ?_))))))))))
 refine Tr.cn rfl ?_ ?_ <;> intro h1 q1
 exfalso; rw [if_pos hce] at h1; exact absurd h1 (by decide)
 refine Tr.skip (Fin.go (Tr.seq (Tr.seq (Tr.reg0 (co rfl (kfa rfl fo49_1 rfl rfl) (co rfl (kl1 rfl one3 rfl) (co rfl (ki rfl rfl rfl rfl) (cm rfl ?_))))))))
 refine Ch.cs 18 rfl ?_ ?_ <;> intro h2 q2
 exfalso; have := q2; omega
 refine cy h2 rfl (kfa rfl fo49_1 rfl rfl) (cy h2 rfl (kl1 rfl one3 rfl) (cy h2 rfl (ki rfl rfl rfl rfl) (co rfl (kpf rfl rfl h2 rfl) (cm rfl ?_))))
 refine Ch.cs 23 rfl ?_ ?_ <;> intro h3 q3
 exfalso; have := q3; omega
 refine cy h3 rfl (ok_loadA rfl agg49 sz49 (vl rfl) rfl rfl) ?_
 refine cy h3 rfl (ok_call rfl (w_lean (c := c)) ⟨ke rfl, trivial⟩) ?_
 refine cy h3 rfl (ok_not rfl (vl rfl)) (co rfl (kpf rfl rfl h3 rfl) (Ch.nil (Fin.go (wk5 2 3 4 5 27 rfl ?_))))
 refine Tr.cn rfl ?_ ?_ <;> intro h4 q4
 rw [hlean] at h4; exact absurd h4 (by decide)
 refine Tr.skip (Fin.go (Tr.seq (Tr.regT (tp rfl (ok_loadA rfl agg35 sz35 (vl rfl) rfl rfl) ?_))))
 refine TO.callV rfl rfl (by decide) rfl (w_CopyEn hsm) ⟨ke rfl, trivial⟩ (fun v1 => ?_)
 refine TO.alloc rfl rfl (by decide) rfl z35 zo35 (fun b3 => ?_)
 refine TO.store_all 0 rfl rfl rfl (vl rfl) (VL.le (vl rfl) (agg_cellsP _)) rfl sz35 rfl rfl (TO.nil (Fin.go (Tr.seq (Tr.regT (tp rfl (ok_loadA rfl agg49 sz49 (vl rfl) rfl rfl) (tp rfl (kfa rfl fo49_0 rfl rfl) (tp rfl (kl1 rfl one3 rfl) (tp rfl (ok_build (rows := [(0, [_])]) rfl bl49 zo49 ⟨⟨rfl, (VL.le (vl rfl) (one_cellsP _))⟩, trivial⟩ rfl) (tp rfl (ok_build (rows := [(0, [_]), (1, _), (2, _)]) rfl bl147 zo147 ⟨⟨rfl, (VL.le (vl rfl) (one_cellsP _))⟩, ⟨⟨rfl, (VL.le (vl rfl) (agg_cellsP _))⟩, ⟨⟨rfl, (VL.le (vl rfl) (agg_cellsP _))⟩, trivial⟩⟩⟩ rfl) ?_)))))))))
 refine TO.boxm rfl rfl (by decide) rfl (VL.le (vl rfl) (agg_cellsP _)) (fun b4 => ?_)
 refine tm rfl (TO.nil (Fin.go (wk5 3 4 5 7 8 rfl (Tr.seq (Tr.seq (Tr.leC 0 (ptr b3 0 :: rowWt c (back0 c)) rfl ⟨Pr.le_refl _, Pr.le_refl _, Pr.le_refl _, Pr.le_refl _, Pr.le_refl _, Pr.le_refl _, Pr.le_refl _, Pr.le_refl _, Pr.le_refl _, Pr.le_refl _, Pr.le_refl _, Pr.le_refl _, Pr.le_refl _, Pr.le_refl _, Pr.le_refl _, Pr.le_refl _, nil_slice 15, trivial⟩ (Tr.regOne mixed 5 (by kernel_rfl) (ChOne.op rfl rfl (by decide) (ok_call rfl (w_kinds) trivial) (ChOne.op rfl rfl (by decide) (kfa rfl fo49_1 rfl rfl) (ChOne.op rfl rfl (by decide) (kl1 rfl one3 rfl) (ChOne.op rfl rfl (by decide) (ok_index1 rfl Tryz.underlying149 one148 sz148 (vl rfl) (vl rfl) (by omega) (by omega) hkp) (ChOne.op rfl rfl (by decide) (ok_move rfl (vl rfl)) ?_))))))))))))
 refine ChOne.turn _ rfl (by decide) (turn_callv _ rfl rfl (vl rfl) (hm _ _ _) ⟨ke rfl, trivial⟩ ((perm_at (j := 0) rfl).trans (List.Perm.cons _ ((perm_at (j := 0) rfl).trans (List.Perm.cons _ ((perm_at (j := 0) rfl).trans (List.Perm.cons _ (List.Perm.refl _)))))))) ?_
 refine cm rfl (Ch.nil (Fin.go (Tr.seq (Tr.reg0 (cm rfl (co rfl (ki rfl rfl rfl rfl) (Ch.nil (Fin.go (wk6 4 5 7 8 9 45 rfl ?_)))))))))
 refine Tr.cn rfl ?_ ?_ <;> intro h5 q5
 refine Tr.seq (Tr.regT (tp rfl (ok_build (rows := []) rfl bl35 zo35 trivial rfl) (tp rfl (ok_build (rows := []) rfl bl49 zo49 trivial rfl) (tm rfl (TO.store_all 1 rfl rfl rfl (vl rfl) (VL.le (vl rfl) (agg_cellsP _)) rfl sz35 rfl rfl (TO.store_all 0 rfl rfl rfl (vl rfl) (VL.le (vl rfl) (agg_cellsP _)) rfl sz49 rfl rfl (tm rfl (TO.nil (Fin.go (Tr.ret (Fin.then_ret (Fin.retX3 rfl (RVal.cell 1 rfl rfl agg35 sz35 rfl (Pr.le_refl _)) (RVal.cell 0 rfl rfl agg49 sz49 rfl (Pr.le_refl _)) (RVal.tmp rfl (Pr.le_refl _)) ?_))))))))))))
 refine tup_le ⟨?_, ?_, ?_, trivial⟩
 · exact agg_le ⟨Pr.le_refl _, Pr.le_refl _, Pr.le_refl _, nil_slice 1, Pr.le_refl _, nil_slice 4, nil_slice 1, nil_slice 1, Pr.le_refl _, trivial⟩
 · exact agg_le ⟨Pr.le_refl _, Pr.le_refl _, Pr.le_refl _, Pr.le_refl _, Pr.le_refl _, Pr.le_refl _, Pr.le_refl _, nil_slice 15, trivial⟩
 · exact Pr.le_refl _
 exfalso; have := q5; omega
set_option maxRecDepth 20000 in
set_option maxHeartbeats 1000000 in
theorem w_donenY {e e2 : Ept} {c b : Chg} {fk : Nat} {err : Int} (hf : e.fits) (hsm : e.small) (hce : eptB e = true) (hk : 1 ≤ c.kind ∧ c.kind ≤ 12) (hlean : leanB c = true) (hkp : kindsP[c.kind.toNat]? = some (fn (.func fk) [])) (hbk : b.idn.small) (hf2 : e2.fits) (hce2 : eptB e2 = true) (hm : ∀ (wb ob : Nat) (v : Value), FunD Tryz.prog fk [ptr wb 0] [resW wb ob c (back0 c), resO ob e (ints e.suites) (is v) (ints e.anchors) (ints e.hashes), oweRes 47 4 (e.ids.map rowId) v] (int 0) [resW wb ob c b, cellsRes true ob 35 (rowEp e2)]) : Fun Tryz.prog 64 [agg (rowEp e), agg (rowChg c)] (tup [agg (rowEp e2), agg (rowChg b), int 0]) := by
 refine Fun.of Tryz.func64 rfl rfl (by exact Nat.le_of_ble_eq_true rfl) fun M0 w0 => ?_
 refine Tr.seq (Tr.regT (tp rfl (ok_box rfl (VL.le (vl rfl) (agg_cellsP _))) (tp rfl (ok_box rfl (VL.le (vl rfl) (agg_cellsP _))) ?_)))
 refine TO.alloc rfl rfl (by decide) rfl z35 zo35 (fun b1 => ?_)
 refine TO.alloc rfl rfl (by decide) rfl z49 zo49 (fun b2 => ?_)
 refine tm rfl (TO.nil (Fin.go (Tr.seq (Tr.seq (Tr.reg0 (co rfl (ok_loadA rfl agg35 sz35 (vl rfl) rfl rfl) (co rfl (ok_call rfl (w_ECheck hf) ⟨ke rfl, trivial⟩) (co rfl (ki rfl rfl rfl rfl) (Ch.nil (Fin.go ?_))))))))))
 refine Tr.cn rfl ?_ ?_ <;> intro h1 q1
 exfalso; rw [if_pos hce] at h1; exact absurd h1 (by decide)
 refine Tr.skip (Fin.go (Tr.seq (Tr.seq (Tr.reg0 (co rfl (kfa rfl fo49_1 rfl rfl) (co rfl (kl1 rfl one3 rfl) (co rfl (ki rfl rfl rfl rfl) (cm rfl ?_))))))))
 refine Ch.cs 18 rfl ?_ ?_ <;> intro h2 q2
 exfalso; have := q2; omega
 refine cy h2 rfl (kfa rfl fo49_1 rfl rfl) (cy h2 rfl (kl1 rfl one3 rfl) (cy h2 rfl (ki rfl rfl rfl rfl) (co rfl (kpf rfl rfl h2 rfl) (cm rfl ?_))))
 refine Ch.cs 23 rfl ?_ ?_ <;> intro h3 q3
 exfalso; have := q3; omega
 refine cy h3 rfl (ok_loadA rfl agg49 sz49 (vl rfl) rfl rfl) ?_
 refine cy h3 rfl (ok_call rfl (w_lean (c := c)) ⟨ke rfl, trivial⟩) ?_
 refine cy h3 rfl (ok_not rfl (vl rfl)) (co rfl (kpf rfl rfl h3 rfl) (Ch.nil (Fin.go (wk5 2 3 4 5 27 rfl ?_))))
 refine Tr.cn rfl ?_ ?_ <;> intro h4 q4
 rw [hlean] at h4; exact absurd h4 (by decide)
 refine Tr.skip (Fin.go (Tr.seq (Tr.regT (tp rfl (ok_loadA rfl agg35 sz35 (vl rfl) rfl rfl) ?_))))
 refine TO.callV rfl rfl (by decide) rfl (w_CopyEn hsm) ⟨ke rfl, trivial⟩ (fun v1 => ?_)
 refine TO.alloc rfl rfl (by decide) rfl z35 zo35 (fun b3 => ?_)
 refine TO.store_all 0 rfl rfl rfl (vl rfl) (VL.le (vl rfl) (agg_cellsP _)) rfl sz35 rfl rfl (TO.nil (Fin.go (Tr.seq (Tr.regT (tp rfl (ok_loadA rfl agg49 sz49 (vl rfl) rfl rfl) (tp rfl (kfa rfl fo49_0 rfl rfl) (tp rfl (kl1 rfl one3 rfl) (tp rfl (ok_build (rows := [(0, [_])]) rfl bl49 zo49 ⟨⟨rfl, (VL.le (vl rfl) (one_cellsP _))⟩, trivial⟩ rfl) (tp rfl (ok_build (rows := [(0, [_]), (1, _), (2, _)]) rfl bl147 zo147 ⟨⟨rfl, (VL.le (vl rfl) (one_cellsP _))⟩, ⟨⟨rfl, (VL.le (vl rfl) (agg_cellsP _))⟩, ⟨⟨rfl, (VL.le (vl rfl) (agg_cellsP _))⟩, trivial⟩⟩⟩ rfl) ?_)))))))))
 refine TO.boxm rfl rfl (by decide) rfl (VL.le (vl rfl) (agg_cellsP _)) (fun b4 => ?_)
 refine tm rfl (TO.nil (Fin.go (wk5 3 4 5 7 8 rfl (Tr.seq (Tr.seq (Tr.leC 0 (ptr b3 0 :: rowWt c (back0 c)) rfl ⟨Pr.le_refl _, Pr.le_refl _, Pr.le_refl _, Pr.le_refl _, Pr.le_refl _, Pr.le_refl _, Pr.le_refl _, Pr.le_refl _, Pr.le_refl _, Pr.le_refl _, Pr.le_refl _, Pr.le_refl _, Pr.le_refl _, Pr.le_refl _, Pr.le_refl _, Pr.le_refl _, nil_slice 15, trivial⟩ (Tr.regOne mixed 5 (by kernel_rfl) (ChOne.op rfl rfl (by decide) (ok_call rfl (w_kinds) trivial) (ChOne.op rfl rfl (by decide) (kfa rfl fo49_1 rfl rfl) (ChOne.op rfl rfl (by decide) (kl1 rfl one3 rfl) (ChOne.op rfl rfl (by decide) (ok_index1 rfl Tryz.underlying149 one148 sz148 (vl rfl) (vl rfl) (by omega) (by omega) hkp) (ChOne.op rfl rfl (by decide) (ok_move rfl (vl rfl)) ?_))))))))))))
 refine ChOne.turn _ rfl (by decide) (turn_callv _ rfl rfl (vl rfl) (hm _ _ _) ⟨ke rfl, trivial⟩ ((perm_at (j := 0) rfl).trans (List.Perm.cons _ ((perm_at (j := 0) rfl).trans (List.Perm.cons _ ((perm_at (j := 0) rfl).trans (List.Perm.cons _ (List.Perm.refl _)))))))) ?_
 refine cm rfl (Ch.nil (Fin.go (Tr.seq (Tr.reg0 (cm rfl (co rfl (ki rfl rfl rfl rfl) (Ch.nil (Fin.go (wk6 4 5 7 8 9 45 rfl ?_)))))))))
 refine Tr.cn rfl ?_ ?_ <;> intro h5 q5
 exact absurd h5 (by decide)
 refine Tr.skip (Fin.go (Tr.seq (Tr.seq (Tr.reg0 (co rfl (ok_rd 1 rfl (rd_loadA rfl agg35 sz35 (vl rfl) rfl rfl)) ?_)))))
 refine co rfl (ok_call rfl (w_ECheck (e := e2) hf2) ⟨ke rfl, trivial⟩) ?_
 refine co rfl (ki rfl rfl rfl rfl) (Ch.nil (Fin.go ?_))
 refine Tr.cn rfl ?_ ?_ <;> intro h6 q6
 exfalso; rw [if_pos hce2] at h6; exact absurd h6 (by decide)
 refine Tr.skip (Fin.go (Tr.seq (Tr.regX mixed [some (0, 1, false, 0), none, none, none, some (0, 0, false, 0), none, some (0, 3, true, 0), some (0, 2, true, 0), none] (by kernel_rfl) (xrd 1 rfl rfl (rd_loadA rfl agg35 sz35 (vl rfl) rfl rfl) (xm rfl (xo rfl (fun _ => okp_nilCheck rfl (vl rfl)) (xo rfl (fun _ => okp_fieldAddr rfl fo147_2 (vl rfl)) (xrd 0 rfl rfl (rd_loadA rfl agg49 sz49 (vl rfl) rfl rfl) ?_))))))))
 refine xo rfl (fun _ => ok_call rfl (w_CopyC (c := b) hbk) ⟨ke rfl, trivial⟩) ?_
 refine Cx.ef0 3 rfl rfl (ef_store rfl rfl (vl rfl) (VL.le (vl rfl) (agg_cellsP _)) sz35 rfl (by exact Nat.le_of_ble_eq_true rfl) rfl) (Cx.ef0 2 rfl rfl (ef_store rfl rfl (vl rfl) (VL.le (vl rfl) (agg_cellsP _)) sz49 rfl (by exact Nat.le_of_ble_eq_true rfl) rfl) (xm rfl ?_))
 refine Cx.nil ⟨rfl, ?_⟩
 refine FinX.done (AllC.cons (AllC.cons (AllC.cons (AllC.cons (AllC.map _))))) (Fin.go (wk3 4 5 6 rfl (Tr.ret (Fin.retX3 rfl (RVal.cell 3 rfl rfl agg35 sz35 rfl (Pr.le_refl _)) (RVal.cell 2 rfl rfl agg49 sz49 rfl (Pr.le_refl _)) (RVal.tmp rfl (Pr.le_refl _)) ?_))))
 refine tup_le ⟨?_, ?_, ?_, trivial⟩
 · exact Pr.le_refl _
 · exact Pr.le_refl _
 · exact Pr.le_refl _
set_option maxRecDepth 20000 in
set_option maxHeartbeats 1000000 in
theorem w_donesE {e e2 : Ept} {c b : Chg} {fk : Nat} {err : Int} (hf : e.fits) (hsm : e.small) (hce : eptB e = true) (hk : 1 ≤ c.kind ∧ c.kind ≤ 12) (hlean : leanB c = true) (hkp : kindsP[c.kind.toNat]? = some (fn (.func fk) [])) (he : err ≠ 0) (hm : ∀ (wb ob : Nat) (v : Value), FunD Tryz.prog fk [ptr wb 0] [resW wb ob c (back0 c), resO ob e (is v) (idns e.ids) (ints e.anchors) (ints e.hashes), oweRes 3 1 (e.suites.map fun n => [int n]) v] (int err) []) : Fun Tryz.prog 64 [agg (rowEp e), agg (rowChg c)] (tup [agg (rowEp zeroEp), agg (rowChg zeroChg), int err]) := by
 refine Fun.of Tryz.func64 rfl rfl (by exact Nat.le_of_ble_eq_true rfl) fun M0 w0 => ?_
 refine Tr.seq (Tr.regT (tp rfl (ok_box rfl (VL.le (vl rfl) (agg_cellsP _))) (tp rfl (ok_box rfl (VL.le (vl rfl) (agg_cellsP _))) ?_)))
 refine TO.alloc rfl rfl (by decide) rfl z35 zo35 (fun b1 => ?_)
 refine TO.alloc rfl rfl (by decide) rfl z49 zo49 (fun b2 => ?_)
 refine tm rfl (TO.nil (Fin.go (Tr.seq (Tr.seq (Tr.reg0 (co rfl (ok_loadA rfl agg35 sz35 (vl rfl) rfl rfl) (co rfl (ok_call rfl (w_ECheck hf) ⟨ke rfl, trivial⟩) (co rfl (ki rfl rfl rfl rfl) (Ch.nil (Fin.go ?_))))))))))
 refine Tr.cn rfl ?_ ?_ <;> intro h1 q1
 exfalso; rw [if_pos hce] at h1; exact absurd h1 (by decide)
 refine Tr.skip (Fin.go (Tr.seq (Tr.seq (Tr.reg0 (co rfl (kfa rfl fo49_1 rfl rfl) (co rfl (kl1 rfl one3 rfl) (co rfl (ki rfl rfl rfl rfl) (cm rfl ?_))))))))
 refine Ch.cs 18 rfl ?_ ?_ <;> intro h2 q2
 exfalso; have := q2; omega
 refine cy h2 rfl (kfa rfl fo49_1 rfl rfl) (cy h2 rfl (kl1 rfl one3 rfl) (cy h2 rfl (ki rfl rfl rfl rfl) (co rfl (kpf rfl rfl h2 rfl) (cm rfl ?_))))
 refine Ch.cs 23 rfl ?_ ?_ <;> intro h3 q3
 exfalso; have := q3; omega
 refine cy h3 rfl (ok_loadA rfl agg49 sz49 (vl rfl) rfl rfl) ?_
 refine cy h3 rfl (ok_call rfl (w_lean (c := c)) ⟨ke rfl, trivial⟩) ?_
 refine cy h3 rfl (ok_not rfl (vl rfl)) (co rfl (kpf rfl rfl h3 rfl) (Ch.nil (Fin.go (wk5 2 3 4 5 27 rfl ?_))))
 refine Tr.cn rfl ?_ ?_ <;> intro h4 q4
 rw [hlean] at h4; exact absurd h4 (by decide)
 refine Tr.skip (Fin.go (Tr.seq (Tr.regT (tp rfl (ok_loadA rfl agg35 sz35 (vl rfl) rfl rfl) ?_))))
 refine TO.callV rfl rfl (by decide) rfl (w_CopyEs hsm) ⟨ke rfl, trivial⟩ (fun v1 => ?_)
 refine TO.alloc rfl rfl (by decide) rfl z35 zo35 (fun b3 => ?_)
 refine TO.store_all 0 rfl rfl rfl (vl rfl) (VL.le (vl rfl) (agg_cellsP _)) rfl sz35 rfl rfl (TO.nil (Fin.go (Tr.seq (Tr.regT (tp rfl (ok_loadA rfl agg49 sz49 (vl rfl) rfl rfl) (tp rfl (kfa rfl fo49_0 rfl rfl) (tp rfl (kl1 rfl one3 rfl) (tp rfl (ok_build (rows := [(0, [_])]) rfl bl49 zo49 ⟨⟨rfl, (VL.le (vl rfl) (one_cellsP _))⟩, trivial⟩ rfl) (tp rfl (ok_build (rows := [(0, [_]), (1, _), (2, _)]) rfl bl147 zo147 ⟨⟨rfl, (VL.le (vl rfl) (one_cellsP _))⟩, ⟨⟨rfl, (VL.le (vl rfl) (agg_cellsP _))⟩, ⟨⟨rfl, (VL.le (vl rfl) (agg_cellsP _))⟩, trivial⟩⟩⟩ rfl) ?_)))))))))
 refine TO.boxm rfl rfl (by decide) rfl (VL.le (vl rfl) (agg_cellsP _)) (fun b4 => ?_)
 refine tm rfl (TO.nil (Fin.go (wk5 3 4 5 7 8 rfl (Tr.seq (Tr.seq (Tr.leC 0 (ptr b3 0 :: rowWt c (back0 c)) rfl ⟨Pr.le_refl _, Pr.le_refl _, Pr.le_refl _, Pr.le_refl _, Pr.le_refl _, Pr.le_refl _, Pr.le_refl _, Pr.le_refl _, Pr.le_refl _, Pr.le_refl _, Pr.le_refl _, Pr.le_refl _, Pr.le_refl _, Pr.le_refl _, Pr.le_refl _, Pr.le_refl _, nil_slice 15, trivial⟩ (Tr.regOne mixed 5 (by kernel_rfl) (ChOne.op rfl rfl (by decide) (ok_call rfl (w_kinds) trivial) (ChOne.op rfl rfl (by decide) (kfa rfl fo49_1 rfl rfl) (ChOne.op rfl rfl (by decide) (kl1 rfl one3 rfl) (ChOne.op rfl rfl (by decide) (ok_index1 rfl Tryz.underlying149 one148 sz148 (vl rfl) (vl rfl) (by omega) (by omega) hkp) (ChOne.op rfl rfl (by decide) (ok_move rfl (vl rfl)) ?_))))))))))))
 refine ChOne.turn _ rfl (by decide) (turn_callv _ rfl rfl (vl rfl) (hm _ _ _) ⟨ke rfl, trivial⟩ ((perm_at (j := 0) rfl).trans (List.Perm.cons _ ((perm_at (j := 0) rfl).trans (List.Perm.cons _ ((perm_at (j := 0) rfl).trans (List.Perm.cons _ (List.Perm.refl _)))))))) ?_
 refine cm rfl (Ch.nil (Fin.go (Tr.seq (Tr.reg0 (cm rfl (co rfl (ki rfl rfl rfl rfl) (Ch.nil (Fin.go (wk6 4 5 7 8 9 45 rfl ?_)))))))))
 refine Tr.cn rfl ?_ ?_ <;> intro h5 q5
 refine Tr.seq (Tr.regT (tp rfl (ok_build (rows := []) rfl bl35 zo35 trivial rfl) (tp rfl (ok_build (rows := []) rfl bl49 zo49 trivial rfl) (tm rfl (TO.store_all 1 rfl rfl rfl (vl rfl) (VL.le (vl rfl) (agg_cellsP _)) rfl sz35 rfl rfl (TO.store_all 0 rfl rfl rfl (vl rfl) (VL.le (vl rfl) (agg_cellsP _)) rfl sz49 rfl rfl (tm rfl (TO.nil (Fin.go (Tr.ret (Fin.then_ret (Fin.retX3 rfl (RVal.cell 1 rfl rfl agg35 sz35 rfl (Pr.le_refl _)) (RVal.cell 0 rfl rfl agg49 sz49 rfl (Pr.le_refl _)) (RVal.tmp rfl (Pr.le_refl _)) ?_))))))))))))
 refine tup_le ⟨?_, ?_, ?_, trivial⟩
 · exact agg_le ⟨Pr.le_refl _, Pr.le_refl _, Pr.le_refl _, nil_slice 1, Pr.le_refl _, nil_slice 4, nil_slice 1, nil_slice 1, Pr.le_refl _, trivial⟩
 · exact agg_le ⟨Pr.le_refl _, Pr.le_refl _, Pr.le_refl _, Pr.le_refl _, Pr.le_refl _, Pr.le_refl _, Pr.le_refl _, nil_slice 15, trivial⟩
 · exact Pr.le_refl _
 exfalso; have := q5; omega
set_option maxRecDepth 20000 in
set_option maxHeartbeats 1000000 in
theorem w_donesY {e e2 : Ept} {c b : Chg} {fk : Nat} {err : Int} (hf : e.fits) (hsm : e.small) (hce : eptB e = true) (hk : 1 ≤ c.kind ∧ c.kind ≤ 12) (hlean : leanB c = true) (hkp : kindsP[c.kind.toNat]? = some (fn (.func fk) [])) (hbk : b.idn.small) (hf2 : e2.fits) (hce2 : eptB e2 = true) (hm : ∀ (wb ob : Nat) (v : Value), FunD Tryz.prog fk [ptr wb 0] [resW wb ob c (back0 c), resO ob e (is v) (idns e.ids) (ints e.anchors) (ints e.hashes), oweRes 3 1 (e.suites.map fun n => [int n]) v] (int 0) [resW wb ob c b, cellsRes true ob 35 (rowEp e2)]) : Fun Tryz.prog 64 [agg (rowEp e), agg (rowChg c)] (tup [agg (rowEp e2), agg (rowChg b), int 0]) := by
 refine Fun.of Tryz.func64 rfl rfl (by exact Nat.le_of_ble_eq_true rfl) fun M0 w0 => ?_
 refine Tr.seq (Tr.regT (tp rfl (ok_box rfl (VL.le (vl rfl) (agg_cellsP _))) (tp rfl (ok_box rfl (VL.le (vl rfl) (agg_cellsP _))) ?_)))
 refine TO.alloc rfl rfl (by decide) rfl z35 zo35 (fun b1 => ?_)
 refine TO.alloc rfl rfl (by decide) rfl z49 zo49 (fun b2 => ?_)
 refine tm rfl (TO.nil (Fin.go (Tr.seq (Tr.seq (Tr.reg0 (co rfl (ok_loadA rfl agg35 sz35 (vl rfl) rfl rfl) (co rfl (ok_call rfl (w_ECheck hf) ⟨ke rfl, trivial⟩) (co rfl (ki rfl rfl rfl rfl) (Ch.nil (Fin.go ?_))))))))))
 refine Tr.cn rfl ?_ ?_ <;> intro h1 q1
 exfalso; rw [if_pos hce] at h1; exact absurd h1 (by decide)
 refine Tr.skip (Fin.go (Tr.seq (Tr.seq (Tr.reg0 (co rfl (kfa rfl fo49_1 rfl rfl) (co rfl (kl1 rfl one3 rfl) (co rfl (ki rfl rfl rfl rfl) (cm rfl ?_))))))))
 refine Ch.cs 18 rfl ?_ ?_ <;> intro h2 q2
 exfalso; have := q2; omega
 refine cy h2 rfl (kfa rfl fo49_1 rfl rfl) (cy h2 rfl (kl1 rfl one3 rfl) (cy h2 rfl (ki rfl rfl rfl rfl) (co rfl (kpf rfl rfl h2 rfl) (cm rfl ?_))))
 refine Ch.cs 23 rfl ?_ ?_ <;> intro h3 q3
 exfalso; have := q3; omega
 refine cy h3 rfl (ok_loadA rfl agg49 sz49 (vl rfl) rfl rfl) ?_
 refine cy h3 rfl (ok_call rfl (w_lean (c := c)) ⟨ke rfl, trivial⟩) ?_
 refine cy h3 rfl (ok_not rfl (vl rfl)) (co rfl (kpf rfl rfl h3 rfl) (Ch.nil (Fin.go (wk5 2 3 4 5 27 rfl ?_))))
 refine Tr.cn rfl ?_ ?_ <;> intro h4 q4
 rw [hlean] at h4; exact absurd h4 (by decide)
 refine Tr.skip (Fin.go (Tr.seq (Tr.regT (tp rfl (ok_loadA rfl agg35 sz35 (vl rfl) rfl rfl) ?_))))
 refine TO.callV rfl rfl (by decide) rfl (w_CopyEs hsm) ⟨ke rfl, trivial⟩ (fun v1 => ?_)
 refine TO.alloc rfl rfl (by decide) rfl z35 zo35 (fun b3 => ?_)
 refine TO.store_all 0 rfl rfl rfl (vl rfl) (VL.le (vl rfl) (agg_cellsP _)) rfl sz35 rfl rfl (TO.nil (Fin.go (Tr.seq (Tr.regT (tp rfl (ok_loadA rfl agg49 sz49 (vl rfl) rfl rfl) (tp rfl (kfa rfl fo49_0 rfl rfl) (tp rfl (kl1 rfl one3 rfl) (tp rfl (ok_build (rows := [(0, [_])]) rfl bl49 zo49 ⟨⟨rfl, (VL.le (vl rfl) (one_cellsP _))⟩, trivial⟩ rfl) (tp rfl (ok_build (rows := [(0, [_]), (1, _), (2, _)]) rfl bl147 zo147 ⟨⟨rfl, (VL.le (vl rfl) (one_cellsP _))⟩, ⟨⟨rfl, (VL.le (vl rfl) (agg_cellsP _))⟩, ⟨⟨rfl, (VL.le (vl rfl) (agg_cellsP _))⟩, trivial⟩⟩⟩ rfl) ?_)))))))))
 refine TO.boxm rfl rfl (by decide) rfl (VL.le (vl rfl) (agg_cellsP _)) (fun b4 => ?_)
 refine tm rfl (TO.nil (Fin.go (wk5 3 4 5 7 8 rfl (Tr.seq (Tr.seq (Tr.leC 0 (ptr b3 0 :: rowWt c (back0 c)) rfl ⟨Pr.le_refl _, Pr.le_refl _, Pr.le_refl _, Pr.le_refl _, Pr.le_refl _, Pr.le_refl _, Pr.le_refl _, Pr.le_refl _, Pr.le_refl _, Pr.le_refl _, Pr.le_refl _, Pr.le_refl _, Pr.le_refl _, Pr.le_refl _, Pr.le_refl _, Pr.le_refl _, nil_slice 15, trivial⟩ (Tr.regOne mixed 5 (by kernel_rfl) (ChOne.op rfl rfl (by decide) (ok_call rfl (w_kinds) trivial) (ChOne.op rfl rfl (by decide) (kfa rfl fo49_1 rfl rfl) (ChOne.op rfl rfl (by decide) (kl1 rfl one3 rfl) (ChOne.op rfl rfl (by decide) (ok_index1 rfl Tryz.underlying149 one148 sz148 (vl rfl) (vl rfl) (by omega) (by omega) hkp) (ChOne.op rfl rfl (by decide) (ok_move rfl (vl rfl)) ?_))))))))))))
 refine ChOne.turn _ rfl (by decide) (turn_callv _ rfl rfl (vl rfl) (hm _ _ _) ⟨ke rfl, trivial⟩ ((perm_at (j := 0) rfl).trans (List.Perm.cons _ ((perm_at (j := 0) rfl).trans (List.Perm.cons _ ((perm_at (j := 0) rfl).trans (List.Perm.cons _ (List.Perm.refl _)))))))) ?_
 refine cm rfl (Ch.nil (Fin.go (Tr.seq (Tr.reg0 (cm rfl (co rfl (ki rfl rfl rfl rfl) (Ch.nil (Fin.go (wk6 4 5 7 8 9 45 rfl ?_)))))))))
 refine Tr.cn rfl ?_ ?_ <;> intro h5 q5
 exact absurd h5 (by decide)
 refine Tr.skip (Fin.go (Tr.seq (Tr.seq (Tr.reg0 (co rfl (ok_rd 1 rfl (rd_loadA rfl agg35 sz35 (vl rfl) rfl rfl)) ?_)))))
 refine co rfl (ok_call rfl (w_ECheck (e := e2) hf2) ⟨ke rfl, trivial⟩) ?_
 refine co rfl (ki rfl rfl rfl rfl) (Ch.nil (Fin.go ?_))
 refine Tr.cn rfl ?_ ?_ <;> intro h6 q6
 exfalso; rw [if_pos hce2] at h6; exact absurd h6 (by decide)
 refine Tr.skip (Fin.go (Tr.seq (Tr.regX mixed [some (0, 1, false, 0), none, none, none, some (0, 0, false, 0), none, some (0, 3, true, 0), some (0, 2, true, 0), none] (by kernel_rfl) (xrd 1 rfl rfl (rd_loadA rfl agg35 sz35 (vl rfl) rfl rfl) (xm rfl (xo rfl (fun _ => okp_nilCheck rfl (vl rfl)) (xo rfl (fun _ => okp_fieldAddr rfl fo147_2 (vl rfl)) (xrd 0 rfl rfl (rd_loadA rfl agg49 sz49 (vl rfl) rfl rfl) ?_))))))))
 refine xo rfl (fun _ => ok_call rfl (w_CopyC (c := b) hbk) ⟨ke rfl, trivial⟩) ?_
 refine Cx.ef0 3 rfl rfl (ef_store rfl rfl (vl rfl) (VL.le (vl rfl) (agg_cellsP _)) sz35 rfl (by exact Nat.le_of_ble_eq_true rfl) rfl) (Cx.ef0 2 rfl rfl (ef_store rfl rfl (vl rfl) (VL.le (vl rfl) (agg_cellsP _)) sz49 rfl (by exact Nat.le_of_ble_eq_true rfl) rfl) (xm rfl ?_))
 refine Cx.nil ⟨rfl, ?_⟩
 refine FinX.done (AllC.cons (AllC.cons (AllC.cons (AllC.cons (AllC.map _))))) (Fin.go (wk3 4 5 6 rfl (Tr.ret (Fin.retX3 rfl (RVal.cell 3 rfl rfl agg35 sz35 rfl (Pr.le_refl _)) (RVal.cell 2 rfl rfl agg49 sz49 rfl (Pr.le_refl _)) (RVal.tmp rfl (Pr.le_refl _)) ?_))))
 refine tup_le ⟨?_, ?_, ?_, trivial⟩
 · exact Pr.le_refl _
 · exact Pr.le_refl _
 · exact Pr.le_refl _
end Go.Proofs.YtflodcidhlmaaaaGreat
namespace Go.Proofs.YtflodcidhlmaaaaGreat
open Go Go.RowKit Cp

abbrev AscI (l : List Int) : Prop := l.Pairwise (· < ·)
/-- How many are before x. -/
def posI (l : List Int) (x : Int) : Nat := (l.takeWhile fun y => decide (y < x)).length
theorem posI_le (l : List Int) (x : Int) : posI l x ≤ l.length := by
  unfold posI
  have h := List.takeWhile_append_dropWhile (p := fun y => decide (y < x)) (l := l)
  have := congrArg List.length h
  rw [List.length_append] at this; omega
theorem posI_eq {x : Int} : ∀ {l : List Int} {k : Nat}, k ≤ l.length → (∀ (j : Nat) y, j < k → l[j]? = some y → y < x) → (∀ y, l[k]? = some y → ¬ y < x) → posI l x = k
  | [], k, hk, _, _ => by have : k = 0 := by simpa using hk
                          subst this; rfl
  | y :: r, 0, _, _, h2 => by unfold posI; rw [List.takeWhile_cons_of_neg (by simpa using h2 y rfl)]; rfl
  | y :: r, k + 1, hk, h1, h2 => by
    have ih := posI_eq (l := r) (k := k) (by simpa using hk) (fun j z hj hz => h1 (j + 1) z (by omega) (by simpa using hz)) (fun z hz => h2 z (by simpa using hz))
    unfold posI at ih ⊢
    rw [List.takeWhile_cons_of_pos (by simpa using h1 0 y (by omega) rfl), List.length_cons, ih]
theorem posI_lt {x : Int} : ∀ {l : List Int} {j : Nat} {y : Int}, j < posI l x → l[j]? = some y → y < x
  | [], j, y, h, _ => by unfold posI at h; simp at h
  | z :: r, j, y, h, hy => by
    by_cases hz : z < x
    · cases j with
      | zero => simp at hy; subst hy; exact hz
      | succ j =>
        refine posI_lt (l := r) (j := j) ?_ (by simpa using hy)
        unfold posI at h ⊢
        rw [List.takeWhile_cons_of_pos (by simpa using hz), List.length_cons] at h; omega
    · unfold posI at h; rw [List.takeWhile_cons_of_neg (by simpa using hz)] at h; simp at h
abbrev hasX (l : List Int) (x : Int) : Bool := (l[posI l x]?).any (fun y => decide (y = x))
abbrev insX (l : List Int) (x : Int) : List Int := l.take (posI l x) ++ [x] ++ l.drop (posI l x)
theorem ascI_lt {l : List Int} (hs : AscI l) {j k : Nat} {y z : Int} (hjk : j < k) (hy : l[j]? = some y) (hz : l[k]? = some z) : y < z := by
  have h1 := lt_of_at hy; have h2 := lt_of_at hz
  have := List.pairwise_iff_getElem.1 hs j k h1 h2 hjk
  rw [List.getElem?_eq_getElem h1] at hy; rw [List.getElem?_eq_getElem h2] at hz
  cases hy; cases hz; exact this
theorem bsI_lt {l : List Int} {x : Int} (hs : AscI l) {h : Nat} {y : Int} (hy : l[h]? = some y) (hyx : y < x) : ∀ (k : Nat) z, k < h + 1 → l[k]? = some z → z < x := by
  intro k z hk hz
  rcases Nat.lt_or_eq_of_le (Nat.le_of_lt_succ hk) with h1 | h1
  · have := ascI_lt hs h1 hz hy; omega
  · subst h1; rw [hy] at hz; cases hz; exact hyx
theorem bsI_ge {l : List Int} {x : Int} (hs : AscI l) {h : Nat} {y : Int} (hy : l[h]? = some y) (hyx : ¬ y < x) : ∀ (k : Nat) z, h ≤ k → l[k]? = some z → ¬ z < x := by
  intro k z hk hz hzx
  rcases Nat.lt_or_eq_of_le hk with h1 | h1
  · have := ascI_lt hs h1 hy hz; omega
  · subst h1; rw [hy] at hz; cases hz; exact hyx hzx
theorem hasX_end {l : List Int} {x : Int} {i : Nat} (hp : posI l x = i) (hi : l.length ≤ i) : hasX l x = false := by
  unfold hasX; rw [hp, List.getElem?_eq_none hi]; rfl
theorem hasX_at {l : List Int} {x : Int} {i : Nat} {y : Int} (hp : posI l x = i) (hy : l[i]? = some y) : hasX l x = decide (y = x) := by
  unfold hasX; rw [hp, hy]; rfl
theorem ascI_of {l : List Int} (h : ascB l = true) : AscI l := by
  unfold ascB at h; rw [allI_iff] at h
  have h1 : ∀ (d i : Nat) y z, l[i]? = some y → l[i + d + 1]? = some z → y < z := by
    intro d
    induction d with
    | zero =>
      intro i y z hy hz
      have := h (i + 1) (lt_of_at hz)
      unfold ascAt at this
      rw [getD_at (show l[i + 1]? = some z from hz), getD_at (show l[i + 1 - 1]? = some y from hy)] at this
      simpa using this
    | succ d ih =>
      intro i y z hy hz
      obtain ⟨m, hm⟩ := at_ (l := l) (k := i + d + 1) (by have := lt_of_at hz; omega)
      have a1 := ih i y m hy hm
      have := h (i + (d + 1) + 1) (lt_of_at hz)
      unfold ascAt at this
      rw [getD_at hz, getD_at (show l[i + (d + 1) + 1 - 1]? = some m from hm)] at this
      have : m < z := by simpa using this
      omega
  refine List.pairwise_iff_getElem.2 fun i j hi hj hij => ?_
  refine h1 (j - i - 1) i _ _ (List.getElem?_eq_getElem hi) ?_
  rw [show i + (j - i - 1) + 1 = j by omega]; exact List.getElem?_eq_getElem hj

set_option maxRecDepth 20000 in
theorem w_isNaNi {a : Int}  : Fun Tryz.prog 243 [int a] (bool false) := by
 refine Fun.of Tryz.func243 rfl rfl (by exact Nat.le_of_ble_eq_true rfl) fun M0 w0 => ?_
 refine Tr.seq (Tr.reg0 (cm rfl (Ch.nil (Fin.go (Tr.seq (Tr.reg0 (cm rfl (cm rfl (co rfl (ki rfl rfl rfl rfl) (cm rfl (Ch.nil (Fin.go (Tr.ret (Fin.ret1 rfl (OutW.bse _ _) rfl ?_))))))))))))))
 · refine bool_eq ?_; simp_all
set_option maxRecDepth 20000 in
theorem w_SisNaNi {a : Int}  : Fun Tryz.prog 256 [int a] (bool false) := by
 refine Fun.of Tryz.func256 rfl rfl (by exact Nat.le_of_ble_eq_true rfl) fun M0 w0 => ?_
 refine Tr.seq (Tr.reg0 (cm rfl (Ch.nil (Fin.go (Tr.seq (Tr.reg0 (cm rfl (cm rfl (co rfl (ki rfl rfl rfl rfl) (cm rfl (Ch.nil (Fin.go (Tr.ret (Fin.ret1 rfl (OutW.bse _ _) rfl ?_))))))))))))))
 · refine bool_eq ?_; simp_all
set_option maxRecDepth 20000 in
theorem w_lessI {a b : Int}  : Fun Tryz.prog 255 [int a, int b] (bool (decide (a < b))) := by
 refine Fun.of Tryz.func255 rfl rfl (by exact Nat.le_of_ble_eq_true rfl) fun M0 w0 => ?_
 refine Tr.seq (Tr.reg0 (cm rfl (Ch.nil (Fin.go (Tr.seq (Tr.reg0 (cm rfl (co rfl (ok_call rfl (w_isNaNi) ⟨ke rfl, trivial⟩) (cm rfl ?_)))))))))
 refine Ch.cs 7 rfl ?_ ?_ <;> intro h1 q1
 exact absurd h1 (by decide)
 refine cnt h1 rfl (cnt h1 rfl (cnt h1 rfl (co rfl (kpf rfl rfl h1 rfl) (cm rfl (cym rfl rfl (cym rfl rfl (cy rfl rfl (ki rfl rfl rfl rfl) (co rfl (kpf rfl rfl rfl rfl) (cm rfl (Ch.nil (Fin.go (wk1 4 rfl (Tr.ret (Fin.ret1 rfl (OutW.bse _ _) rfl ?_))))))))))))))
 · exact Pr.le_refl _
set_option maxRecDepth 20000 in
theorem w_BSP {l : List Int} {x : Int} (hs : AscI l) (hl : l.length ≤ 1000000) : Fun Tryz.prog 229 [ints l, int x] (tup [int ((posI l x : Nat) : Int), bool (hasX l x)]) := by
 refine Fun.of Tryz.func229 rfl rfl (by exact Nat.le_of_ble_eq_true rfl) fun M0 w0 => ?_
 refine Tr.lenm 0 rfl fun hlm_0 => (Tr.seq (Tr.reg0 (cm rfl (cm rfl (Ch.nil (Fin.go (Tr.seq (Tr.reg0 (cm rfl (co rfl (ok_lenm rfl Tryz.underlying22 (vl rfl)) (cm rfl (Ch.nil (Fin.go (Tr.seq ?_))))))))))))))
 refine Tr.reg0 (cm rfl (cm rfl (cm rfl (Ch.nil (Fin.go (Tr.seq (Tr.block ?_)))))))
 refine Tr.loopD2V0 [(0, _), (1, _), (6, _)] ⟨ke rfl, ke rfl, ke rfl, trivial⟩ (fun (i : Nat) (j : Nat) => [(7, int ((i : Nat) : Int)), (8, int ((j : Nat) : Int))]) (fun (i : Nat) (j : Nat) => Hp M0 w0 noS ([])) (fun (i : Nat) (j : Nat) => i ≤ j ∧ j ≤ l.length ∧ (∀ (k : Nat) y, k < i → l[k]? = some y → y < x) ∧ (∀ (k : Nat) y, j ≤ k → l[k]? = some y → ¬ y < x)) (fun (i : Nat) (j : Nat) => j - i) (0) (l.length)  (⟨Nat.zero_le _, Nat.le_refl _, fun k y h => absurd h (Nat.not_lt_zero _), fun k y h1 h2 => by rw [List.getElem?_eq_none h1] at h2; cases h2⟩) ⟨ke rfl, ke rfl, trivial⟩ (fun _ _ h => h) ?_
 rintro i j  ⟨hi1, hi2, hi3, hi4⟩
 refine Tr.seq (Tr.seq (Tr.reg0 (cm rfl (cm rfl (co rfl (ki rfl rfl rfl rfl) (Ch.nil (Fin.go ?_)))))))
 refine Tr.cn rfl ?_ ?_ <;> intro h1 q1
 have hij : i < j := by have := of_decide_eq_true h1; omega
 obtain ⟨y, hyn⟩ := at_ (l := l) (k := (i + j) / 2) (by omega)
 have hy : l[((((i : Nat) : Int) + ((j : Nat) : Int)) / 2).toNat]? = some y := by rw [show ((((i : Nat) : Int) + ((j : Nat) : Int)) / 2).toNat = (i + j) / 2 by omega]; exact hyn
 refine Tr.skip (Fin.go (Tr.block (Tr.seq (Tr.reg0 (cm rfl (cm rfl (cad rfl rfl rfl rfl (by omega) (co rfl (ok_convU rfl Tryz.underlying3 Tryz.underlying221 (vl rfl) (by omega) (by omega)) (co rfl (ok_half rfl (vl rfl) (vl rfl) (by omega)) ?_)))))))))
 refine co rfl (ok_convI rfl Tryz.underlying221 Tryz.underlying3 (vl rfl) (by unfold InI; omega)) ?_
 refine cm rfl (Ch.nil (Fin.go (wk6 0 1 6 7 8 9 rfl (Tr.seq (Tr.reg0 (cm rfl (cm rfl (co rfl (ok_indexAddr rfl Tryz.underlying22 sz3 (vl rfl) (vl rfl) (by omega) (row_atI (f := fun n : Int => [int n]) hy)) (co rfl (kl1 rfl one3 rfl) (cm rfl (co rfl (ok_call rfl (w_lessI) ⟨ke rfl, ke rfl, trivial⟩) (Ch.nil (Fin.go ?_)))))))))))))
 refine Tr.cn rfl ?_ ?_ <;> intro h2 q2
 have hlt := of_decide_eq_true h2
 refine Tr.reg0 (cm rfl (cad rfl rfl rfl rfl (by omega) (cm rfl (Ch.nil (Fin.block (Fin.famD2V0 ((i + j) / 2 + 1) (j)  (⟨⟨by omega, by omega, bsI_lt hs hyn hlt, hi4⟩, by omega⟩) ⟨⟨_, rfl, int_eq (by omega)⟩, ⟨_, rfl, int_eq (by omega)⟩, ke rfl, ke rfl, ke rfl, trivial⟩ (fun _ _ h => h)))))))
 have hlt := of_decide_eq_false h2
 refine Tr.reg0 (cm rfl (cm rfl (Ch.nil (Fin.block (Fin.famD2V0 (i) ((i + j) / 2)  (⟨⟨by omega, by omega, hi3, bsI_ge hs hyn hlt⟩, by omega⟩) ⟨⟨_, rfl, int_eq (by omega)⟩, ⟨_, rfl, int_eq (by omega)⟩, ke rfl, ke rfl, ke rfl, trivial⟩ (fun _ _ h => h))))))
 obtain rfl : i = j := (by have := of_decide_eq_false h1; omega)
 have hp : posI l x = i := posI_eq (by omega) hi3 (fun y hy => hi4 i y (by omega) hy)
 refine Tr.exit (Fin.then_exit (Fin.then_exit (Fin.block_here (Fin.go (Tr.seq (Tr.reg0 (cm rfl (cm rfl (cm rfl (co rfl (ki rfl rfl rfl rfl) (cm rfl ?_)))))))))))
 refine Ch.cs 35 rfl ?_ ?_ <;> intro h3 q3
 obtain ⟨y, hyi⟩ := at_ (l := l) (k := i) (by have := q3; simp at this; omega)
 refine cym h3 rfl (cym h3 rfl ?_)
 refine cy h3 rfl (ok_indexAddr rfl Tryz.underlying22 sz3 (vl rfl) (vl rfl) (by omega) (row_atI (f := fun n : Int => [int n]) (by rw [Int.toNat_natCast]; exact hyi))) ?_
 refine cy h3 rfl (kl1 rfl one3 rfl) (cym h3 rfl (cy h3 rfl (ki rfl rfl rfl rfl) (cym h3 rfl ?_)))
 refine Ch.cs 42 rfl ?_ ?_ <;> intro h4 q4
 iterate 6 refine cnf h4 rfl ?_
 refine cu rfl (cu rfl (cnf h4 rfl (cy h3 rfl (kpt rfl rfl h4 rfl) (co rfl (kpt rfl rfl h3 rfl) (cm rfl (cm rfl (Ch.nil (Fin.go (wk2 4 5 rfl (Tr.ret (Fin.ret2 rfl (OutW.bse _ _) rfl ?_ rfl ?_)))))))))))
 · exact int_eq (by rw [hp])
 · refine bool_eq ?_; rw [hasX_at hp hyi]; symm; rw [decide_eq_true_eq]; simp_all
 refine cym h4 rfl (cym h4 rfl ?_)
 refine cy h4 rfl (ok_indexAddr rfl Tryz.underlying22 sz3 (vl rfl) (vl rfl) (by omega) (row_atI (f := fun n : Int => [int n]) (by rw [Int.toNat_natCast]; exact hyi))) ?_
 refine cy h4 rfl (kl1 rfl one3 rfl) (cy h4 rfl (ok_call rfl (w_SisNaNi) ⟨ke rfl, trivial⟩) (cym h4 rfl ?_))
 refine Ch.cs 48 rfl ?_ ?_ <;> intro h5 q5
 exact absurd h5 (by decide)
 refine cnt h5 rfl (cnt h5 rfl (cy h4 rfl (kpf rfl rfl h5 rfl) (cy h3 rfl (kpf rfl rfl h4 rfl) (co rfl (kpt rfl rfl h3 rfl) (cm rfl (cm rfl (Ch.nil (Fin.go (wk2 4 5 rfl (Tr.ret (Fin.ret2 rfl (OutW.bse _ _) rfl ?_ rfl ?_)))))))))))
 · exact int_eq (by rw [hp])
 · refine bool_eq ?_; rw [hasX_at hp hyi]; symm; rw [decide_eq_false_iff_not]; simp_all
 iterate 7 refine cnt h3 rfl ?_
 iterate 9 refine cu rfl ?_
 refine cnt h3 rfl (co rfl (kpf rfl rfl h3 rfl) (cm rfl (cm rfl (Ch.nil (Fin.go (wk2 4 5 rfl (Tr.ret (Fin.ret2 rfl (OutW.bse _ _) rfl ?_ rfl ?_))))))))
 · exact int_eq (by rw [hp])
 · refine bool_eq ?_; rw [hasX_end hp (by omega)]
theorem w_BSWi {l : List Int} {x : Int} {v : Value} (hs : AscI l) (hl : l.length ≤ 1000000) : FunM Tryz.prog 229 [is v, int x] (tup [int ((posI l x : Nat) : Int), bool (hasX l x)]) (oweRes 3 1 (l.map fun n => [int n]) v) (fun _ => oweRes 3 1 (l.map fun n => [int n]) v) := FunM.owe_pure (map_rows fun _ => rfl) (w_BSP hs hl)

end Go.Proofs.YtflodcidhlmaaaaGreat
namespace Go.Proofs.YtflodcidhlmaaaaGreat
open Go Go.RowKit Cp
set_option maxRecDepth 20000 in
theorem w_insIBad {e : Ept} {x at_ : Int} {ob : Nat} {v : Value} {p5 p6 p7 : Pr}  (hr : ¬ (0 ≤ at_ ∧ at_ ≤ (e.suites.length : Nat))) : FunD Tryz.prog 176 [ptr ob 3, int at_, int x] [resO ob e (is v) p5 p6 p7, oweRes 3 1 (e.suites.map fun n => [int n]) v] (int 2) [] := by
 refine FunD.of Tryz.func176 rfl rfl (by exact Nat.le_of_ble_eq_true rfl) fun M0 w0 S rs M1 w1 => (Tr.seq ?_)
 have hml : (e.suites.map fun n => [int n]).length = e.suites.length := List.length_map _
 refine Tr.reg0 (cm rfl (Ch.nil (Fin.go (Tr.seq (Tr.seq (Tr.reg0 (cm rfl (co rfl (ki rfl rfl rfl rfl) (cm rfl ?_)))))))))
 refine Ch.cs 9 rfl ?_ ?_ <;> intro h1 q1
 have hq9 := q1
 iterate 6 refine cnf h1 rfl ?_
 refine co rfl (kpt rfl rfl h1 rfl) (Ch.nil (Fin.go (Tr.cond rfl (fun _ => ?_) (fun h => nomatch h))))
 refine Tr.seq (Tr.reg0 (cm rfl (Ch.nil (Fin.go (Tr.ret (Fin.then_ret (Fin.drop 0 (Fin.drop 0 (Fin.retD rfl (RVal.tmp rfl (Pr.le_refl _)) ?_ (List.Perm.refl _))))))))))
 · exact Pr.le_refl _
 refine cym h1 rfl (cym h1 rfl (cy h1 rfl (okp_nilCheck rfl (vl rfl)) (cy h1 rfl (ok_rd 0 rfl (rd_load1 rfl one22 (vl rfl) rfl)) (cy h1 rfl (ok_rd 1 rfl (rd_lenW rfl Tryz.underlying22 (vl rfl))) (cy h1 rfl (ki rfl rfl rfl rfl) (co rfl (kpf rfl rfl h1 rfl) (Ch.nil (Fin.go ?_))))))))
 refine Tr.cn rfl ?_ ?_ <;> intro h2 q2
 refine Tr.seq (Tr.reg0 (cm rfl (Ch.nil (Fin.go (Tr.ret (Fin.then_ret (Fin.drop 0 (Fin.drop 0 (Fin.retD rfl (RVal.tmp rfl (Pr.le_refl _)) ?_ (List.Perm.refl _))))))))))
 · exact Pr.le_refl _
 exfalso; simp_all
set_option maxRecDepth 20000 in
theorem w_insIOk {e : Ept} {x at_ : Int} {ob : Nat} {v : Value} {p5 p6 p7 : Pr}  (hr : 0 ≤ at_ ∧ at_ ≤ (e.suites.length : Nat)) (hl : e.suites.length ≤ 1000000) : FunD Tryz.prog 176 [ptr ob 3, int at_, int x] [resO ob e (is v) p5 p6 p7, oweRes 3 1 (e.suites.map fun n => [int n]) v] (int 0) [resO ob e (ints (e.suites.take at_.toNat ++ [x] ++ e.suites.drop at_.toNat)) p5 p6 p7] := by
 refine FunD.of Tryz.func176 rfl rfl (by exact Nat.le_of_ble_eq_true rfl) fun M0 w0 S rs M1 w1 => (Tr.seq ?_)
 have hml : (e.suites.map fun n => [int n]).length = e.suites.length := List.length_map _
 refine Tr.reg0 (cm rfl (Ch.nil (Fin.go (Tr.seq (Tr.seq (Tr.reg0 (cm rfl (co rfl (ki rfl rfl rfl rfl) (cm rfl ?_)))))))))
 refine Ch.cs 9 rfl ?_ ?_ <;> intro h1 q1
 exfalso; have := q1; omega
 refine cym h1 rfl (cym h1 rfl (cy h1 rfl (okp_nilCheck rfl (vl rfl)) (cy h1 rfl (ok_rd 0 rfl (rd_load1 rfl one22 (vl rfl) rfl)) (cy h1 rfl (ok_rd 1 rfl (rd_lenW rfl Tryz.underlying22 (vl rfl))) (cy h1 rfl (ki rfl rfl rfl rfl) (co rfl (kpf rfl rfl h1 rfl) (Ch.nil (Fin.go ?_))))))))
 refine Tr.cn rfl ?_ ?_ <;> intro h2 q2
 exfalso; simp_all; omega
 refine Tr.skip (Fin.go (Tr.seq (Tr.regT (tm rfl (tm rfl (tp rfl (okp_nilCheck rfl (vl rfl)) (TO.rd 0 rfl rfl rfl (by decide) (rd_load1 rfl one22 (vl rfl) rfl) (tm rfl (tm rfl (tp rfl (ok_buildSlice (xs := [.tmp 22]) (rows := [[_]]) rfl rfl Tryz.underlying22 sz3 z3 rfl (by decide) ⟨⟨(by exact rfl), (VL.le (vl rfl) (one_cellsP _))⟩, trivial⟩ (by decide)) ?_))))))))))
 refine TO.efc 1 rfl rfl (by decide) (ef_callc rfl rfl (by decide) rfl (w_InsWi (l := e.suites) (x := x) (i := at_.toNat) (by omega) hl) ⟨ke rfl, ⟨_, rfl, int_eq (by omega)⟩, ⟨_, rfl, full_le _ _⟩, trivial⟩) ?_
 refine tp rfl (okp_nilCheck rfl (vl rfl)) (TO.ef0 0 rfl rfl (ef_store rfl rfl (vl rfl) (VL.le (vl rfl) (one_cellsP _)) sz22 rfl (by exact Nat.le_of_ble_eq_true rfl) rfl) (TO.nil (Fin.go (Tr.weak [] trivial (Tr.seq (Tr.reg0 (cm rfl (Ch.nil (Fin.go (Tr.ret (Fin.drop 1 (Fin.retD rfl (RVal.tmp rfl (Pr.le_refl _)) ?_ (List.Perm.refl _)))))))))))))
 · exact Pr.le_refl _
set_option maxRecDepth 20000 in
theorem w_addSuiteR {e : Ept} {c b : Chg} {wb ob : Nat} {v : Value} {p5 p6 p7 : Pr}  (hr : ¬ (0 ≤ c.at_ ∧ c.at_ ≤ (e.suites.length : Nat))) : FunD Tryz.prog 141 [ptr wb 0] [resW wb ob c b, resO ob e (is v) p5 p6 p7, oweRes 3 1 (e.suites.map fun n => [int n]) v] (int 2) [] := by
 refine FunD.of Tryz.func141 rfl rfl (by exact Nat.le_of_ble_eq_true rfl) fun M0 w0 S rs M1 w1 => (Tr.seq (Tr.reg0 (cm rfl (Ch.nil (Fin.go (Tr.seq (Tr.regX mixed [none, none, none, some (0, 0, false, 0), none, none, some (0, 1, false, 0), none, none, none, none, some (0, 0, false, 0), some (0, 2, true, 0), none] (by kernel_rfl) (xm rfl (xo rfl (fun _ => okp_nilCheck rfl (vl rfl)) (xo rfl (fun _ => okp_fieldAddr rfl fo147_0 (vl rfl)) (xrd 0 rfl rfl (rd_load1 rfl one145 (vl rfl) rfl) (xo rfl (fun _ => okp_nilCheck rfl (vl rfl)) (xo rfl (fun _ => okp_fieldAddr rfl fo35_3 (vl rfl)) ?_)))))))))))))
 refine xrd 1 rfl rfl (rd_load1 rfl one22 (vl rfl) rfl) (xm rfl (xo rfl (fun _ => okp_nilCheck rfl (vl rfl)) (xo rfl (fun _ => okp_fieldAddr rfl fo147_1 (vl rfl)) (xo rfl (fun _ => okp_fieldAddr rfl fo49_2 (vl rfl)) (xrd 0 rfl rfl (rd_load1 rfl one3 (vl rfl) rfl) ?_)))))
 refine Cx.ef 2 rfl rfl (by decide) (ef_callc rfl rfl (by decide) rfl (w_HasWi (l := e.suites)) ⟨ke rfl, ke rfl, trivial⟩) ?_
 refine xm rfl ?_
 refine Cx.nil ⟨rfl, ?_⟩
 refine FinX.done (AllC.cons (AllC.cons (AllC.cons (AllC.cons (AllC.map _))))) (Fin.go (wk2 0 3 rfl (Tr.seq (Tr.seq (Tr.regOne mixed 16 (by kernel_rfl) (ChOne.op rfl rfl (by decide) (ok_move rfl (vl rfl)) (ChOne.op rfl rfl (by decide) (okp_nilCheck rfl (vl rfl)) (ChOne.op rfl rfl (by decide) (okp_fieldAddr rfl fo147_0 (vl rfl)) (ChOne.op rfl rfl (by decide) (ok_rd 0 rfl (rd_load1 rfl one145 (vl rfl) rfl)) (ChOne.op rfl rfl (by decide) (okp_nilCheck rfl (vl rfl)) (ChOne.op rfl rfl (by decide) (okp_fieldAddr rfl fo35_3 (vl rfl)) (ChOne.op rfl rfl (by decide) (ok_move rfl (vl rfl)) (ChOne.op rfl rfl (by decide) (okp_nilCheck rfl (vl rfl)) ?_)))))))))))))
 refine ChOne.op rfl rfl (by decide) (okp_fieldAddr rfl fo147_1 (vl rfl)) (ChOne.op rfl rfl (by decide) (okp_fieldAddr rfl fo49_3 (vl rfl)) (ChOne.op rfl rfl (by decide) (ok_rd 0 rfl (rd_load1 rfl one3 (vl rfl) rfl)) (ChOne.op rfl rfl (by decide) (ok_move rfl (vl rfl)) (ChOne.op rfl rfl (by decide) (okp_nilCheck rfl (vl rfl)) (ChOne.op rfl rfl (by decide) (okp_fieldAddr rfl fo147_1 (vl rfl)) (ChOne.op rfl rfl (by decide) (okp_fieldAddr rfl fo49_2 (vl rfl)) (ChOne.op rfl rfl (by decide) (ok_rd 0 rfl (rd_load1 rfl one3 (vl rfl) rfl)) ?_)))))))
 refine ChOne.turn _ rfl (by decide) (turn_call _ rfl rfl (w_insIBad (e := e) (x := c.number) (at_ := c.at_) hr) ⟨ke rfl, ke rfl, ke rfl, trivial⟩ ((perm_at (j := 1) rfl).trans (List.Perm.cons _ ((perm_at (j := 1) rfl).trans (List.Perm.cons _ (List.Perm.refl _)))))) ?_
 refine cm rfl (Ch.nil (Fin.go (wk3 0 3 4 rfl (Tr.seq (Tr.reg0 (cm rfl (co rfl (ki rfl rfl rfl rfl) (Ch.nil (Fin.go ?_)))))))))
 refine Tr.cn rfl ?_ ?_ <;> intro h1 q1
 refine Tr.seq (Tr.reg0 (cm rfl (cm rfl (Ch.nil (Fin.go (Tr.ret (Fin.then_ret (Fin.drop 0 (Fin.retD rfl (RVal.tmp rfl (Pr.le_refl _)) ?_ (List.Perm.refl _))))))))))
 · exact Pr.le_refl _
 exact absurd h1 (by decide)
set_option maxRecDepth 20000 in
theorem w_addSuiteT {e : Ept} {c b : Chg} {wb ob : Nat} {v : Value} {p5 p6 p7 : Pr}  (hr : 0 ≤ c.at_ ∧ c.at_ ≤ (e.suites.length : Nat)) (hl : e.suites.length ≤ 1000000) (h : (e.suites.any fun y => c.number == y) = true) : FunD Tryz.prog 141 [ptr wb 0] [resW wb ob c b, resO ob e (is v) p5 p6 p7, oweRes 3 1 (e.suites.map fun n => [int n]) v] (int 41) [] := by
 refine FunD.of Tryz.func141 rfl rfl (by exact Nat.le_of_ble_eq_true rfl) fun M0 w0 S rs M1 w1 => (Tr.seq (Tr.reg0 (cm rfl (Ch.nil (Fin.go (Tr.seq (Tr.regX mixed [none, none, none, some (0, 0, false, 0), none, none, some (0, 1, false, 0), none, none, none, none, some (0, 0, false, 0), some (0, 2, true, 0), none] (by kernel_rfl) (xm rfl (xo rfl (fun _ => okp_nilCheck rfl (vl rfl)) (xo rfl (fun _ => okp_fieldAddr rfl fo147_0 (vl rfl)) (xrd 0 rfl rfl (rd_load1 rfl one145 (vl rfl) rfl) (xo rfl (fun _ => okp_nilCheck rfl (vl rfl)) (xo rfl (fun _ => okp_fieldAddr rfl fo35_3 (vl rfl)) ?_)))))))))))))
 refine xrd 1 rfl rfl (rd_load1 rfl one22 (vl rfl) rfl) (xm rfl (xo rfl (fun _ => okp_nilCheck rfl (vl rfl)) (xo rfl (fun _ => okp_fieldAddr rfl fo147_1 (vl rfl)) (xo rfl (fun _ => okp_fieldAddr rfl fo49_2 (vl rfl)) (xrd 0 rfl rfl (rd_load1 rfl one3 (vl rfl) rfl) ?_)))))
 refine Cx.ef 2 rfl rfl (by decide) (ef_callc rfl rfl (by decide) rfl (w_HasWi (l := e.suites)) ⟨ke rfl, ke rfl, trivial⟩) ?_
 refine xm rfl ?_
 refine Cx.nil ⟨rfl, ?_⟩
 refine FinX.done (AllC.cons (AllC.cons (AllC.cons (AllC.cons (AllC.map _))))) (Fin.go (wk2 0 3 rfl (Tr.seq (Tr.seq (Tr.regOne mixed 16 (by kernel_rfl) (ChOne.op rfl rfl (by decide) (ok_move rfl (vl rfl)) (ChOne.op rfl rfl (by decide) (okp_nilCheck rfl (vl rfl)) (ChOne.op rfl rfl (by decide) (okp_fieldAddr rfl fo147_0 (vl rfl)) (ChOne.op rfl rfl (by decide) (ok_rd 0 rfl (rd_load1 rfl one145 (vl rfl) rfl)) (ChOne.op rfl rfl (by decide) (okp_nilCheck rfl (vl rfl)) (ChOne.op rfl rfl (by decide) (okp_fieldAddr rfl fo35_3 (vl rfl)) (ChOne.op rfl rfl (by decide) (ok_move rfl (vl rfl)) (ChOne.op rfl rfl (by decide) (okp_nilCheck rfl (vl rfl)) ?_)))))))))))))
 refine ChOne.op rfl rfl (by decide) (okp_fieldAddr rfl fo147_1 (vl rfl)) (ChOne.op rfl rfl (by decide) (okp_fieldAddr rfl fo49_3 (vl rfl)) (ChOne.op rfl rfl (by decide) (ok_rd 0 rfl (rd_load1 rfl one3 (vl rfl) rfl)) (ChOne.op rfl rfl (by decide) (ok_move rfl (vl rfl)) (ChOne.op rfl rfl (by decide) (okp_nilCheck rfl (vl rfl)) (ChOne.op rfl rfl (by decide) (okp_fieldAddr rfl fo147_1 (vl rfl)) (ChOne.op rfl rfl (by decide) (okp_fieldAddr rfl fo49_2 (vl rfl)) (ChOne.op rfl rfl (by decide) (ok_rd 0 rfl (rd_load1 rfl one3 (vl rfl) rfl)) ?_)))))))
 refine ChOne.turn _ rfl (by decide) (turn_call _ rfl rfl (w_insIOk (e := e) (x := c.number) (at_ := c.at_) hr hl) ⟨ke rfl, ke rfl, ke rfl, trivial⟩ ((perm_at (j := 1) rfl).trans (List.Perm.cons _ ((perm_at (j := 1) rfl).trans (List.Perm.cons _ (List.Perm.refl _)))))) ?_
 refine cm rfl (Ch.nil (Fin.go (wk3 0 3 4 rfl (Tr.seq (Tr.reg0 (cm rfl (co rfl (ki rfl rfl rfl rfl) (Ch.nil (Fin.go ?_)))))))))
 refine Tr.cn rfl ?_ ?_ <;> intro h1 q1
 exact absurd h1 (by decide)
 refine Tr.skip (Fin.go (Tr.seq (Tr.seq (Tr.reg0 (cm rfl (Ch.nil (Fin.go ?_)))))))
 refine Tr.cn rfl ?_ ?_ <;> intro h2 q2
 refine Tr.seq (Tr.reg0 (cm rfl (Ch.nil (Fin.go (Tr.ret (Fin.then_ret (Fin.drop 0 (Fin.drop 0 (Fin.retD rfl (RVal.tmp rfl (Pr.le_refl _)) ?_ (List.Perm.refl _))))))))))
 · exact Pr.le_refl _
 rw [h] at h2; exact absurd h2 (by decide)
set_option maxRecDepth 20000 in
theorem w_addSuiteY {e : Ept} {c b : Chg} {wb ob : Nat} {v : Value} {p5 p6 p7 : Pr}  (hr : 0 ≤ c.at_ ∧ c.at_ ≤ (e.suites.length : Nat)) (hl : e.suites.length ≤ 1000000) (h : (e.suites.any fun y => c.number == y) = false) : FunD Tryz.prog 141 [ptr wb 0] [resW wb ob c b, resO ob e (is v) p5 p6 p7, oweRes 3 1 (e.suites.map fun n => [int n]) v] (int 0) [resO ob e (ints (e.suites.take c.at_.toNat ++ [c.number] ++ e.suites.drop c.at_.toNat)) p5 p6 p7, resW wb ob c ⟨b.endpoint, 2, c.number, b.at_, b.idn⟩] := by
 refine FunD.of Tryz.func141 rfl rfl (by exact Nat.le_of_ble_eq_true rfl) fun M0 w0 S rs M1 w1 => (Tr.seq (Tr.reg0 (cm rfl (Ch.nil (Fin.go (Tr.seq (Tr.regX mixed [none, none, none, some (0, 0, false, 0), none, none, some (0, 1, false, 0), none, none, none, none, some (0, 0, false, 0), some (0, 2, true, 0), none] (by kernel_rfl) (xm rfl (xo rfl (fun _ => okp_nilCheck rfl (vl rfl)) (xo rfl (fun _ => okp_fieldAddr rfl fo147_0 (vl rfl)) (xrd 0 rfl rfl (rd_load1 rfl one145 (vl rfl) rfl) (xo rfl (fun _ => okp_nilCheck rfl (vl rfl)) (xo rfl (fun _ => okp_fieldAddr rfl fo35_3 (vl rfl)) ?_)))))))))))))
 refine xrd 1 rfl rfl (rd_load1 rfl one22 (vl rfl) rfl) (xm rfl (xo rfl (fun _ => okp_nilCheck rfl (vl rfl)) (xo rfl (fun _ => okp_fieldAddr rfl fo147_1 (vl rfl)) (xo rfl (fun _ => okp_fieldAddr rfl fo49_2 (vl rfl)) (xrd 0 rfl rfl (rd_load1 rfl one3 (vl rfl) rfl) ?_)))))
 refine Cx.ef 2 rfl rfl (by decide) (ef_callc rfl rfl (by decide) rfl (w_HasWi (l := e.suites)) ⟨ke rfl, ke rfl, trivial⟩) ?_
 refine xm rfl ?_
 refine Cx.nil ⟨rfl, ?_⟩
 refine FinX.done (AllC.cons (AllC.cons (AllC.cons (AllC.cons (AllC.map _))))) (Fin.go (wk2 0 3 rfl (Tr.seq (Tr.seq (Tr.regOne mixed 16 (by kernel_rfl) (ChOne.op rfl rfl (by decide) (ok_move rfl (vl rfl)) (ChOne.op rfl rfl (by decide) (okp_nilCheck rfl (vl rfl)) (ChOne.op rfl rfl (by decide) (okp_fieldAddr rfl fo147_0 (vl rfl)) (ChOne.op rfl rfl (by decide) (ok_rd 0 rfl (rd_load1 rfl one145 (vl rfl) rfl)) (ChOne.op rfl rfl (by decide) (okp_nilCheck rfl (vl rfl)) (ChOne.op rfl rfl (by decide) (okp_fieldAddr rfl fo35_3 (vl rfl)) (ChOne.op rfl rfl (by decide) (ok_move rfl (vl rfl)) (ChOne.op rfl rfl (by decide) (okp_nilCheck rfl (vl rfl)) ?_)))))))))))))
 refine ChOne.op rfl rfl (by decide) (okp_fieldAddr rfl fo147_1 (vl rfl)) (ChOne.op rfl rfl (by decide) (okp_fieldAddr rfl fo49_3 (vl rfl)) (ChOne.op rfl rfl (by decide) (ok_rd 0 rfl (rd_load1 rfl one3 (vl rfl) rfl)) (ChOne.op rfl rfl (by decide) (ok_move rfl (vl rfl)) (ChOne.op rfl rfl (by decide) (okp_nilCheck rfl (vl rfl)) (ChOne.op rfl rfl (by decide) (okp_fieldAddr rfl fo147_1 (vl rfl)) (ChOne.op rfl rfl (by decide) (okp_fieldAddr rfl fo49_2 (vl rfl)) (ChOne.op rfl rfl (by decide) (ok_rd 0 rfl (rd_load1 rfl one3 (vl rfl) rfl)) ?_)))))))
 refine ChOne.turn _ rfl (by decide) (turn_call _ rfl rfl (w_insIOk (e := e) (x := c.number) (at_ := c.at_) hr hl) ⟨ke rfl, ke rfl, ke rfl, trivial⟩ ((perm_at (j := 1) rfl).trans (List.Perm.cons _ ((perm_at (j := 1) rfl).trans (List.Perm.cons _ (List.Perm.refl _)))))) ?_
 refine cm rfl (Ch.nil (Fin.go (wk3 0 3 4 rfl (Tr.seq (Tr.reg0 (cm rfl (co rfl (ki rfl rfl rfl rfl) (Ch.nil (Fin.go ?_)))))))))
 refine Tr.cn rfl ?_ ?_ <;> intro h1 q1
 exact absurd h1 (by decide)
 refine Tr.skip (Fin.go (Tr.seq (Tr.seq (Tr.reg0 (cm rfl (Ch.nil (Fin.go ?_)))))))
 refine Tr.cn rfl ?_ ?_ <;> intro h2 q2
 rw [h] at h2; exact absurd h2 (by decide)
 refine Tr.skip (Fin.go (Tr.seq (Tr.regT (tm rfl (tm rfl (tm rfl (tp rfl (okp_nilCheck rfl (vl rfl)) (tp rfl (okp_fieldAddr rfl fo147_1 (vl rfl)) (tp rfl (okp_fieldAddr rfl fo49_2 (vl rfl)) (TO.rd 1 rfl rfl rfl (by decide) (rd_load1 rfl one3 (vl rfl) rfl) (tp rfl (okp_nilCheck rfl (vl rfl)) (tp rfl (okp_fieldAddr rfl fo147_2 (vl rfl)) (tp rfl (okp_fieldAddr rfl fo49_1 (vl rfl)) ?_)))))))))))))
 refine TO.ef0 1 rfl rfl (ef_store rfl rfl (vl rfl) (VL.le (vl rfl) (one_cellsP _)) sz3 rfl (by exact Nat.le_of_ble_eq_true rfl) rfl) (tp rfl (okp_nilCheck rfl (vl rfl)) (tp rfl (okp_fieldAddr rfl fo147_2 (vl rfl)) (tp rfl (okp_fieldAddr rfl fo49_2 (vl rfl)) (TO.ef0 1 rfl rfl (ef_store rfl rfl (vl rfl) (VL.le (vl rfl) (one_cellsP _)) sz3 rfl (by exact Nat.le_of_ble_eq_true rfl) rfl) (TO.nil (Fin.go (Tr.weak [] trivial (Tr.seq (Tr.reg0 (cm rfl (Ch.nil (Fin.go (Tr.ret (Fin.retD rfl (RVal.tmp rfl (Pr.le_refl _)) ?_ (List.Perm.refl _)))))))))))))))
 · exact Pr.le_refl _
theorem hasX_lt {l : List Int} {x : Int} (h : hasX l x = true) : posI l x < l.length := by
  by_cases hp : posI l x < l.length
  · exact hp
  · unfold hasX at h; rw [List.getElem?_eq_none (by omega)] at h; cases h
set_option maxRecDepth 20000 in
theorem w_add6T {e : Ept} {c b : Chg} {wb ob : Nat} {v : Value} {p3 p5 p7 : Pr} {bk : Int}  (hs : AscI e.anchors) (hl : e.anchors.length ≤ 1000000) (h : hasX e.anchors c.number = true) : FunD Tryz.prog 184 [ptr wb 0, ptr ob 6, int bk] [resW wb ob c b, resO ob e p3 p5 (is v) p7, oweRes 3 1 (e.anchors.map fun n => [int n]) v] (int 41) [] := by
 refine FunD.of Tryz.func184 rfl rfl (by exact Nat.le_of_ble_eq_true rfl) fun M0 w0 S rs M1 w1 => (Tr.seq (Tr.reg0 (cm rfl (Ch.nil (Fin.go (Tr.seq (Tr.regX mixed [none, none, some (0, 1, false, 0), none, none, none, none, some (0, 0, false, 0), some (0, 2, true, 0), none, none, none, none, none] (by kernel_rfl) (xm rfl (xo rfl (fun _ => okp_nilCheck rfl (vl rfl)) (xrd 1 rfl rfl (rd_load1 rfl one22 (vl rfl) rfl) (xm rfl (xo rfl (fun _ => okp_nilCheck rfl (vl rfl)) (xo rfl (fun _ => okp_fieldAddr rfl fo147_1 (vl rfl)) ?_)))))))))))))
 refine xo rfl (fun _ => okp_fieldAddr rfl fo49_2 (vl rfl)) (xrd 0 rfl rfl (rd_load1 rfl one3 (vl rfl) rfl) ?_)
 refine Cx.ef 2 rfl rfl (by decide) (ef_callc rfl rfl (by decide) rfl (w_BSWi (l := e.anchors) hs hl) ⟨ke rfl, ke rfl, trivial⟩) ?_
 refine xm rfl (xo rfl (fun _ => ok_extract rfl (vl rfl) rfl) (xo rfl (fun _ => ok_extract rfl (vl rfl) rfl) (xm rfl (xm rfl ?_))))
 refine Cx.nil ⟨rfl, ?_⟩
 refine FinX.done (AllC.cons (AllC.cons (AllC.cons (AllC.cons (AllC.map _))))) (Fin.go (wk5 0 1 2 7 8 rfl (Tr.seq (Tr.seq (Tr.reg0 (cm rfl (Ch.nil (Fin.go ?_))))))))
 refine Tr.cn rfl ?_ ?_ <;> intro h1 q1
 refine Tr.seq (Tr.reg0 (cm rfl (Ch.nil (Fin.go (Tr.ret (Fin.then_ret (Fin.drop 0 (Fin.drop 0 (Fin.drop 0 (Fin.retD rfl (RVal.tmp rfl (Pr.le_refl _)) ?_ (List.Perm.refl _)))))))))))
 · exact Pr.le_refl _
 rw [h] at h1; exact absurd h1 (by decide)
set_option maxRecDepth 20000 in
theorem w_addAnchorT {e : Ept} {c b : Chg} {wb ob : Nat} {v : Value} {p3 p5 p7 : Pr}  (hs : AscI e.anchors) (hl : e.anchors.length ≤ 1000000) (h : hasX e.anchors c.number = true) : FunD Tryz.prog 147 [ptr wb 0] [resW wb ob c b, resO ob e p3 p5 (is v) p7, oweRes 3 1 (e.anchors.map fun n => [int n]) v] (int 41) [] := by
 refine FunD.of Tryz.func147 rfl rfl (by exact Nat.le_of_ble_eq_true rfl) fun M0 w0 S rs M1 w1 => (Tr.seq (Tr.reg0 (cm rfl (Ch.nil (Fin.go (Tr.seq (Tr.regT (tm rfl (tm rfl (tp rfl (okp_nilCheck rfl (vl rfl)) (tp rfl (okp_fieldAddr rfl fo147_0 (vl rfl)) (TO.rd 0 rfl rfl rfl (by decide) (rd_load1 rfl one145 (vl rfl) rfl) (tp rfl (okp_nilCheck rfl (vl rfl)) ?_)))))))))))))
 refine tp rfl (okp_fieldAddr rfl fo35_6 (vl rfl)) ?_
 refine TO.callD _ rfl rfl (by decide) rfl (w_add6T (e := e) (c := c) (b := b) hs hl h) ⟨ke rfl, ke rfl, ke rfl, trivial⟩ ((perm_at (j := 0) rfl).trans (List.Perm.cons _ ((perm_at (j := 0) rfl).trans (List.Perm.cons _ ((perm_at (j := 0) rfl).trans (List.Perm.cons _ (List.Perm.refl _))))))) ?_
 refine tm rfl (TO.nil (Fin.go (Tr.ret (Fin.retD rfl (RVal.tmp rfl (Pr.le_refl _)) ?_ (List.Perm.refl _)))))
 · exact Pr.le_refl _
set_option maxRecDepth 20000 in
theorem w_add6Y {e : Ept} {c b : Chg} {wb ob : Nat} {v : Value} {p3 p5 p7 : Pr} {bk : Int}  (hs : AscI e.anchors) (hl : e.anchors.length ≤ 1000000) (h : hasX e.anchors c.number = false) : FunD Tryz.prog 184 [ptr wb 0, ptr ob 6, int bk] [resW wb ob c b, resO ob e p3 p5 (is v) p7, oweRes 3 1 (e.anchors.map fun n => [int n]) v] (int 0) [resW wb ob c ⟨b.endpoint, bk, c.number, b.at_, b.idn⟩, resO ob e p3 p5 (ints (insX e.anchors c.number)) p7] := by
 refine FunD.of Tryz.func184 rfl rfl (by exact Nat.le_of_ble_eq_true rfl) fun M0 w0 S rs M1 w1 => (Tr.seq (Tr.reg0 (cm rfl (Ch.nil (Fin.go (Tr.seq (Tr.regX mixed [none, none, some (0, 1, false, 0), none, none, none, none, some (0, 0, false, 0), some (0, 2, true, 0), none, none, none, none, none] (by kernel_rfl) (xm rfl (xo rfl (fun _ => okp_nilCheck rfl (vl rfl)) (xrd 1 rfl rfl (rd_load1 rfl one22 (vl rfl) rfl) (xm rfl (xo rfl (fun _ => okp_nilCheck rfl (vl rfl)) (xo rfl (fun _ => okp_fieldAddr rfl fo147_1 (vl rfl)) ?_)))))))))))))
 refine xo rfl (fun _ => okp_fieldAddr rfl fo49_2 (vl rfl)) (xrd 0 rfl rfl (rd_load1 rfl one3 (vl rfl) rfl) ?_)
 refine Cx.ef 2 rfl rfl (by decide) (ef_callc rfl rfl (by decide) rfl (w_BSWi (l := e.anchors) hs hl) ⟨ke rfl, ke rfl, trivial⟩) ?_
 refine xm rfl (xo rfl (fun _ => ok_extract rfl (vl rfl) rfl) (xo rfl (fun _ => ok_extract rfl (vl rfl) rfl) (xm rfl (xm rfl ?_))))
 refine Cx.nil ⟨rfl, ?_⟩
 refine FinX.done (AllC.cons (AllC.cons (AllC.cons (AllC.cons (AllC.map _))))) (Fin.go (wk5 0 1 2 7 8 rfl (Tr.seq (Tr.seq (Tr.reg0 (cm rfl (Ch.nil (Fin.go ?_))))))))
 refine Tr.cn rfl ?_ ?_ <;> intro h1 q1
 rw [h] at h1; exact absurd h1 (by decide)
 refine Tr.skip (Fin.go (Tr.seq (Tr.regX mixed [none, none, none, some (0, 1, false, 0), none, none, none, none, none, some (0, 0, false, 0), none, some (0, 2, true, 0), none, some (0, 1, true, 0)] (by kernel_rfl) (xm rfl (xm rfl (xo rfl (fun _ => okp_nilCheck rfl (vl rfl)) (xrd 1 rfl rfl (rd_load1 rfl one22 (vl rfl) rfl) (xm rfl (xm rfl (xo rfl (fun _ => okp_nilCheck rfl (vl rfl)) (xo rfl (fun _ => okp_fieldAddr rfl fo147_1 (vl rfl)) (xo rfl (fun _ => okp_fieldAddr rfl fo49_2 (vl rfl)) (xrd 0 rfl rfl (rd_load1 rfl one3 (vl rfl) rfl) ?_)))))))))))))
 refine xo rfl (fun _ => ok_buildSlice (xs := [.tmp 31]) (rows := [[_]]) rfl rfl Tryz.underlying22 sz3 z3 rfl (by decide) ⟨⟨(by exact rfl), (VL.le (vl rfl) (one_cellsP _))⟩, trivial⟩ (by decide)) ?_
 refine Cx.ef 2 rfl rfl (by decide) (ef_callc rfl rfl (by decide) rfl (w_InsWi (l := e.anchors) (x := c.number) (i := posI e.anchors c.number) (posI_le _ _) hl) ⟨ke rfl, ke rfl, ⟨_, rfl, full_le _ _⟩, trivial⟩) ?_
 refine xo rfl (fun _ => okp_nilCheck rfl (vl rfl)) (Cx.ef0 1 rfl rfl (ef_store rfl rfl (vl rfl) (VL.le (vl rfl) (one_cellsP _)) sz22 rfl (by exact Nat.le_of_ble_eq_true rfl) rfl) ?_)
 refine Cx.nil ⟨rfl, ?_⟩
 refine FinX.done (AllC.cons (AllC.cons (AllC.cons (AllC.cons (AllC.map _))))) (Fin.go (wk2 0 2 rfl (Tr.seq (Tr.regT ?_))))
 iterate 4 refine tm rfl ?_
 refine tp rfl (okp_nilCheck rfl (vl rfl)) (tp rfl (okp_fieldAddr rfl fo147_1 (vl rfl)) (tp rfl (okp_fieldAddr rfl fo49_2 (vl rfl)) (TO.rd 0 rfl rfl rfl (by decide) (rd_load1 rfl one3 (vl rfl) rfl) (tp rfl (okp_nilCheck rfl (vl rfl)) (tp rfl (okp_fieldAddr rfl fo147_2 (vl rfl)) (tp rfl (okp_fieldAddr rfl fo49_1 (vl rfl)) (TO.ef0 0 rfl rfl (ef_store rfl rfl (vl rfl) (VL.le (vl rfl) (one_cellsP _)) sz3 rfl (by exact Nat.le_of_ble_eq_true rfl) rfl) (tp rfl (okp_nilCheck rfl (vl rfl)) (tp rfl (okp_fieldAddr rfl fo147_2 (vl rfl)) (tp rfl (okp_fieldAddr rfl fo49_2 (vl rfl)) (TO.ef0 0 rfl rfl (ef_store rfl rfl (vl rfl) (VL.le (vl rfl) (one_cellsP _)) sz3 rfl (by exact Nat.le_of_ble_eq_true rfl) rfl) (TO.nil (Fin.go (Tr.weak [] trivial ?_))))))))))))))
 refine Tr.seq (Tr.reg0 (cm rfl (Ch.nil (Fin.go (Tr.ret (Fin.drop 2 (Fin.retD rfl (RVal.tmp rfl (Pr.le_refl _)) ?_ (List.Perm.refl _))))))))
 · exact Pr.le_refl _
set_option maxRecDepth 20000 in
theorem w_addAnchorY {e : Ept} {c b : Chg} {wb ob : Nat} {v : Value} {p3 p5 p7 : Pr}  (hs : AscI e.anchors) (hl : e.anchors.length ≤ 1000000) (h : hasX e.anchors c.number = false) : FunD Tryz.prog 147 [ptr wb 0] [resW wb ob c b, resO ob e p3 p5 (is v) p7, oweRes 3 1 (e.anchors.map fun n => [int n]) v] (int 0) [resW wb ob c ⟨b.endpoint, 8, c.number, b.at_, b.idn⟩, resO ob e p3 p5 (ints (insX e.anchors c.number)) p7] := by
 refine FunD.of Tryz.func147 rfl rfl (by exact Nat.le_of_ble_eq_true rfl) fun M0 w0 S rs M1 w1 => (Tr.seq (Tr.reg0 (cm rfl (Ch.nil (Fin.go (Tr.seq (Tr.regT (tm rfl (tm rfl (tp rfl (okp_nilCheck rfl (vl rfl)) (tp rfl (okp_fieldAddr rfl fo147_0 (vl rfl)) (TO.rd 0 rfl rfl rfl (by decide) (rd_load1 rfl one145 (vl rfl) rfl) (tp rfl (okp_nilCheck rfl (vl rfl)) ?_)))))))))))))
 refine tp rfl (okp_fieldAddr rfl fo35_6 (vl rfl)) ?_
 refine TO.callD _ rfl rfl (by decide) rfl (w_add6Y (e := e) (c := c) (b := b) hs hl h) ⟨ke rfl, ke rfl, ke rfl, trivial⟩ ((perm_at (j := 0) rfl).trans (List.Perm.cons _ ((perm_at (j := 0) rfl).trans (List.Perm.cons _ ((perm_at (j := 0) rfl).trans (List.Perm.cons _ (List.Perm.refl _))))))) ?_
 refine tm rfl (TO.nil (Fin.go (Tr.ret (Fin.retD rfl (RVal.tmp rfl (Pr.le_refl _)) ?_ (List.Perm.refl _)))))
 · exact Pr.le_refl _
set_option maxRecDepth 20000 in
theorem w_drop6T {e : Ept} {c b : Chg} {wb ob : Nat} {v : Value} {p3 p5 p7 : Pr} {bk : Int}  (hs : AscI e.anchors) (hl : e.anchors.length ≤ 1000000) (h : hasX e.anchors c.number = false) : FunD Tryz.prog 185 [ptr wb 0, ptr ob 6, int bk] [resW wb ob c b, resO ob e p3 p5 (is v) p7, oweRes 3 1 (e.anchors.map fun n => [int n]) v] (int 41) [] := by
 refine FunD.of Tryz.func185 rfl rfl (by exact Nat.le_of_ble_eq_true rfl) fun M0 w0 S rs M1 w1 => (Tr.seq (Tr.reg0 (cm rfl (Ch.nil (Fin.go (Tr.seq (Tr.regX mixed [none, none, some (0, 1, false, 0), none, none, none, none, some (0, 0, false, 0), some (0, 2, true, 0), none, none, none, none, none] (by kernel_rfl) (xm rfl (xo rfl (fun _ => okp_nilCheck rfl (vl rfl)) (xrd 1 rfl rfl (rd_load1 rfl one22 (vl rfl) rfl) (xm rfl (xo rfl (fun _ => okp_nilCheck rfl (vl rfl)) (xo rfl (fun _ => okp_fieldAddr rfl fo147_1 (vl rfl)) ?_)))))))))))))
 refine xo rfl (fun _ => okp_fieldAddr rfl fo49_2 (vl rfl)) (xrd 0 rfl rfl (rd_load1 rfl one3 (vl rfl) rfl) ?_)
 refine Cx.ef 2 rfl rfl (by decide) (ef_callc rfl rfl (by decide) rfl (w_BSWi (l := e.anchors) hs hl) ⟨ke rfl, ke rfl, trivial⟩) ?_
 refine xm rfl (xo rfl (fun _ => ok_extract rfl (vl rfl) rfl) (xo rfl (fun _ => ok_extract rfl (vl rfl) rfl) (xm rfl (xm rfl ?_))))
 refine Cx.nil ⟨rfl, ?_⟩
 refine FinX.done (AllC.cons (AllC.cons (AllC.cons (AllC.cons (AllC.map _))))) (Fin.go (wk5 0 1 2 7 8 rfl (Tr.seq (Tr.seq (Tr.reg0 (cm rfl (co rfl (ok_not rfl (vl rfl)) (Ch.nil (Fin.go ?_)))))))))
 refine Tr.cn rfl ?_ ?_ <;> intro h1 q1
 refine Tr.seq (Tr.reg0 (cm rfl (Ch.nil (Fin.go (Tr.ret (Fin.then_ret (Fin.drop 0 (Fin.drop 0 (Fin.drop 0 (Fin.retD rfl (RVal.tmp rfl (Pr.le_refl _)) ?_ (List.Perm.refl _)))))))))))
 · exact Pr.le_refl _
 rw [h] at h1; exact absurd h1 (by decide)
set_option maxRecDepth 20000 in
theorem w_dropAnchorT {e : Ept} {c b : Chg} {wb ob : Nat} {v : Value} {p3 p5 p7 : Pr}  (hs : AscI e.anchors) (hl : e.anchors.length ≤ 1000000) (h : hasX e.anchors c.number = false) : FunD Tryz.prog 148 [ptr wb 0] [resW wb ob c b, resO ob e p3 p5 (is v) p7, oweRes 3 1 (e.anchors.map fun n => [int n]) v] (int 41) [] := by
 refine FunD.of Tryz.func148 rfl rfl (by exact Nat.le_of_ble_eq_true rfl) fun M0 w0 S rs M1 w1 => (Tr.seq (Tr.reg0 (cm rfl (Ch.nil (Fin.go (Tr.seq (Tr.regT (tm rfl (tm rfl (tp rfl (okp_nilCheck rfl (vl rfl)) (tp rfl (okp_fieldAddr rfl fo147_0 (vl rfl)) (TO.rd 0 rfl rfl rfl (by decide) (rd_load1 rfl one145 (vl rfl) rfl) (tp rfl (okp_nilCheck rfl (vl rfl)) ?_)))))))))))))
 refine tp rfl (okp_fieldAddr rfl fo35_6 (vl rfl)) ?_
 refine TO.callD _ rfl rfl (by decide) rfl (w_drop6T (e := e) (c := c) (b := b) hs hl h) ⟨ke rfl, ke rfl, ke rfl, trivial⟩ ((perm_at (j := 0) rfl).trans (List.Perm.cons _ ((perm_at (j := 0) rfl).trans (List.Perm.cons _ ((perm_at (j := 0) rfl).trans (List.Perm.cons _ (List.Perm.refl _))))))) ?_
 refine tm rfl (TO.nil (Fin.go (Tr.ret (Fin.retD rfl (RVal.tmp rfl (Pr.le_refl _)) ?_ (List.Perm.refl _)))))
 · exact Pr.le_refl _
set_option maxRecDepth 20000 in
theorem w_drop6Y {e : Ept} {c b : Chg} {wb ob : Nat} {v : Value} {p3 p5 p7 : Pr} {bk : Int}  (hs : AscI e.anchors) (hl : e.anchors.length ≤ 1000000) (h : hasX e.anchors c.number = true) : FunD Tryz.prog 185 [ptr wb 0, ptr ob 6, int bk] [resW wb ob c b, resO ob e p3 p5 (is v) p7, oweRes 3 1 (e.anchors.map fun n => [int n]) v] (int 0) [resW wb ob c ⟨b.endpoint, bk, c.number, b.at_, b.idn⟩, resO ob e p3 p5 (ints (e.anchors.eraseIdx (posI e.anchors c.number))) p7] := by
 refine FunD.of Tryz.func185 rfl rfl (by exact Nat.le_of_ble_eq_true rfl) fun M0 w0 S rs M1 w1 => ?_
 have hlt_ := hasX_lt h
 refine Tr.seq (Tr.reg0 (cm rfl (Ch.nil (Fin.go (Tr.seq (Tr.regX mixed [none, none, some (0, 1, false, 0), none, none, none, none, some (0, 0, false, 0), some (0, 2, true, 0), none, none, none, none, none] (by kernel_rfl) (xm rfl (xo rfl (fun _ => okp_nilCheck rfl (vl rfl)) (xrd 1 rfl rfl (rd_load1 rfl one22 (vl rfl) rfl) (xm rfl (xo rfl (fun _ => okp_nilCheck rfl (vl rfl)) (xo rfl (fun _ => okp_fieldAddr rfl fo147_1 (vl rfl)) (xo rfl (fun _ => okp_fieldAddr rfl fo49_2 (vl rfl)) ?_)))))))))))))
 refine xrd 0 rfl rfl (rd_load1 rfl one3 (vl rfl) rfl) ?_
 refine Cx.ef 2 rfl rfl (by decide) (ef_callc rfl rfl (by decide) rfl (w_BSWi (l := e.anchors) hs hl) ⟨ke rfl, ke rfl, trivial⟩) ?_
 refine xm rfl (xo rfl (fun _ => ok_extract rfl (vl rfl) rfl) (xo rfl (fun _ => ok_extract rfl (vl rfl) rfl) (xm rfl (xm rfl ?_))))
 refine Cx.nil ⟨rfl, ?_⟩
 refine FinX.done (AllC.cons (AllC.cons (AllC.cons (AllC.cons (AllC.map _))))) (Fin.go (wk5 0 1 2 7 8 rfl (Tr.seq (Tr.seq (Tr.reg0 (cm rfl (co rfl (ok_not rfl (vl rfl)) (Ch.nil (Fin.go ?_)))))))))
 refine Tr.cn rfl ?_ ?_ <;> intro h1 q1
 rw [h] at h1; exact absurd h1 (by decide)
 refine Tr.skip (Fin.go (Tr.seq (Tr.regT (tm rfl (tm rfl (tp rfl (okp_nilCheck rfl (vl rfl)) (TO.rd 1 rfl rfl rfl (by decide) (rd_load1 rfl one22 (vl rfl) rfl) (tm rfl (tm rfl ?_)))))))))
 refine tp rfl (ok_add rfl (vl rfl) (vl rfl) ?hin) ?_; case hin => unfold InI; omega
 refine TO.efc 2 rfl rfl (by decide) (ef_callc rfl rfl (by decide) rfl (w_DelWi (l := e.anchors) (i := posI e.anchors c.number) (hasX_lt h) hl) ⟨ke rfl, ⟨_, rfl, int_eq (by omega)⟩, ⟨_, rfl, int_eq (by omega)⟩, trivial⟩) ?_
 refine tp rfl (okp_nilCheck rfl (vl rfl)) (TO.ef0 1 rfl rfl (ef_store rfl rfl (vl rfl) (VL.le (vl rfl) (one_cellsP _)) sz22 rfl (by exact Nat.le_of_ble_eq_true rfl) rfl) (TO.nil (Fin.go (wk2 0 2 rfl (Tr.seq (Tr.regT ?_))))))
 iterate 4 refine tm rfl ?_
 refine tp rfl (okp_nilCheck rfl (vl rfl)) (tp rfl (okp_fieldAddr rfl fo147_1 (vl rfl)) (tp rfl (okp_fieldAddr rfl fo49_2 (vl rfl)) (TO.rd 0 rfl rfl rfl (by decide) (rd_load1 rfl one3 (vl rfl) rfl) (tp rfl (okp_nilCheck rfl (vl rfl)) (tp rfl (okp_fieldAddr rfl fo147_2 (vl rfl)) (tp rfl (okp_fieldAddr rfl fo49_1 (vl rfl)) (TO.ef0 0 rfl rfl (ef_store rfl rfl (vl rfl) (VL.le (vl rfl) (one_cellsP _)) sz3 rfl (by exact Nat.le_of_ble_eq_true rfl) rfl) (tp rfl (okp_nilCheck rfl (vl rfl)) (tp rfl (okp_fieldAddr rfl fo147_2 (vl rfl)) (tp rfl (okp_fieldAddr rfl fo49_2 (vl rfl)) (TO.ef0 0 rfl rfl (ef_store rfl rfl (vl rfl) (VL.le (vl rfl) (one_cellsP _)) sz3 rfl (by exact Nat.le_of_ble_eq_true rfl) rfl) (TO.nil (Fin.go (Tr.weak [] trivial ?_))))))))))))))
 refine Tr.seq (Tr.reg0 (cm rfl (Ch.nil (Fin.go (Tr.ret (Fin.drop 2 (Fin.retD rfl (RVal.tmp rfl (Pr.le_refl _)) ?_ (List.Perm.refl _))))))))
 · exact Pr.le_refl _
set_option maxRecDepth 20000 in
theorem w_dropAnchorY {e : Ept} {c b : Chg} {wb ob : Nat} {v : Value} {p3 p5 p7 : Pr}  (hs : AscI e.anchors) (hl : e.anchors.length ≤ 1000000) (h : hasX e.anchors c.number = true) : FunD Tryz.prog 148 [ptr wb 0] [resW wb ob c b, resO ob e p3 p5 (is v) p7, oweRes 3 1 (e.anchors.map fun n => [int n]) v] (int 0) [resW wb ob c ⟨b.endpoint, 7, c.number, b.at_, b.idn⟩, resO ob e p3 p5 (ints (e.anchors.eraseIdx (posI e.anchors c.number))) p7] := by
 refine FunD.of Tryz.func148 rfl rfl (by exact Nat.le_of_ble_eq_true rfl) fun M0 w0 S rs M1 w1 => (Tr.seq (Tr.reg0 (cm rfl (Ch.nil (Fin.go (Tr.seq (Tr.regT (tm rfl (tm rfl (tp rfl (okp_nilCheck rfl (vl rfl)) (tp rfl (okp_fieldAddr rfl fo147_0 (vl rfl)) (TO.rd 0 rfl rfl rfl (by decide) (rd_load1 rfl one145 (vl rfl) rfl) (tp rfl (okp_nilCheck rfl (vl rfl)) ?_)))))))))))))
 refine tp rfl (okp_fieldAddr rfl fo35_6 (vl rfl)) ?_
 refine TO.callD _ rfl rfl (by decide) rfl (w_drop6Y (e := e) (c := c) (b := b) hs hl h) ⟨ke rfl, ke rfl, ke rfl, trivial⟩ ((perm_at (j := 0) rfl).trans (List.Perm.cons _ ((perm_at (j := 0) rfl).trans (List.Perm.cons _ ((perm_at (j := 0) rfl).trans (List.Perm.cons _ (List.Perm.refl _))))))) ?_
 refine tm rfl (TO.nil (Fin.go (Tr.ret (Fin.retD rfl (RVal.tmp rfl (Pr.le_refl _)) ?_ (List.Perm.refl _)))))
 · exact Pr.le_refl _
set_option maxRecDepth 20000 in
theorem w_add7T {e : Ept} {c b : Chg} {wb ob : Nat} {v : Value} {p3 p5 p6 : Pr} {bk : Int}  (hs : AscI e.hashes) (hl : e.hashes.length ≤ 1000000) (h : hasX e.hashes c.number = true) : FunD Tryz.prog 184 [ptr wb 0, ptr ob 7, int bk] [resW wb ob c b, resO ob e p3 p5 p6 (is v), oweRes 3 1 (e.hashes.map fun n => [int n]) v] (int 41) [] := by
 refine FunD.of Tryz.func184 rfl rfl (by exact Nat.le_of_ble_eq_true rfl) fun M0 w0 S rs M1 w1 => (Tr.seq (Tr.reg0 (cm rfl (Ch.nil (Fin.go (Tr.seq (Tr.regX mixed [none, none, some (0, 1, false, 0), none, none, none, none, some (0, 0, false, 0), some (0, 2, true, 0), none, none, none, none, none] (by kernel_rfl) (xm rfl (xo rfl (fun _ => okp_nilCheck rfl (vl rfl)) (xrd 1 rfl rfl (rd_load1 rfl one22 (vl rfl) rfl) (xm rfl (xo rfl (fun _ => okp_nilCheck rfl (vl rfl)) (xo rfl (fun _ => okp_fieldAddr rfl fo147_1 (vl rfl)) ?_)))))))))))))
 refine xo rfl (fun _ => okp_fieldAddr rfl fo49_2 (vl rfl)) (xrd 0 rfl rfl (rd_load1 rfl one3 (vl rfl) rfl) ?_)
 refine Cx.ef 2 rfl rfl (by decide) (ef_callc rfl rfl (by decide) rfl (w_BSWi (l := e.hashes) hs hl) ⟨ke rfl, ke rfl, trivial⟩) ?_
 refine xm rfl (xo rfl (fun _ => ok_extract rfl (vl rfl) rfl) (xo rfl (fun _ => ok_extract rfl (vl rfl) rfl) (xm rfl (xm rfl ?_))))
 refine Cx.nil ⟨rfl, ?_⟩
 refine FinX.done (AllC.cons (AllC.cons (AllC.cons (AllC.cons (AllC.map _))))) (Fin.go (wk5 0 1 2 7 8 rfl (Tr.seq (Tr.seq (Tr.reg0 (cm rfl (Ch.nil (Fin.go ?_))))))))
 refine Tr.cn rfl ?_ ?_ <;> intro h1 q1
 refine Tr.seq (Tr.reg0 (cm rfl (Ch.nil (Fin.go (Tr.ret (Fin.then_ret (Fin.drop 0 (Fin.drop 0 (Fin.drop 0 (Fin.retD rfl (RVal.tmp rfl (Pr.le_refl _)) ?_ (List.Perm.refl _)))))))))))
 · exact Pr.le_refl _
 rw [h] at h1; exact absurd h1 (by decide)
set_option maxRecDepth 20000 in
theorem w_addHashT {e : Ept} {c b : Chg} {wb ob : Nat} {v : Value} {p3 p5 p6 : Pr}  (hs : AscI e.hashes) (hl : e.hashes.length ≤ 1000000) (h : hasX e.hashes c.number = true) : FunD Tryz.prog 149 [ptr wb 0] [resW wb ob c b, resO ob e p3 p5 p6 (is v), oweRes 3 1 (e.hashes.map fun n => [int n]) v] (int 41) [] := by
 refine FunD.of Tryz.func149 rfl rfl (by exact Nat.le_of_ble_eq_true rfl) fun M0 w0 S rs M1 w1 => (Tr.seq (Tr.reg0 (cm rfl (Ch.nil (Fin.go (Tr.seq (Tr.regT (tm rfl (tm rfl (tp rfl (okp_nilCheck rfl (vl rfl)) (tp rfl (okp_fieldAddr rfl fo147_0 (vl rfl)) (TO.rd 0 rfl rfl rfl (by decide) (rd_load1 rfl one145 (vl rfl) rfl) (tp rfl (okp_nilCheck rfl (vl rfl)) ?_)))))))))))))
 refine tp rfl (okp_fieldAddr rfl fo35_7 (vl rfl)) ?_
 refine TO.callD _ rfl rfl (by decide) rfl (w_add7T (e := e) (c := c) (b := b) hs hl h) ⟨ke rfl, ke rfl, ke rfl, trivial⟩ ((perm_at (j := 0) rfl).trans (List.Perm.cons _ ((perm_at (j := 0) rfl).trans (List.Perm.cons _ ((perm_at (j := 0) rfl).trans (List.Perm.cons _ (List.Perm.refl _))))))) ?_
 refine tm rfl (TO.nil (Fin.go (Tr.ret (Fin.retD rfl (RVal.tmp rfl (Pr.le_refl _)) ?_ (List.Perm.refl _)))))
 · exact Pr.le_refl _
set_option maxRecDepth 20000 in
theorem w_add7Y {e : Ept} {c b : Chg} {wb ob : Nat} {v : Value} {p3 p5 p6 : Pr} {bk : Int}  (hs : AscI e.hashes) (hl : e.hashes.length ≤ 1000000) (h : hasX e.hashes c.number = false) : FunD Tryz.prog 184 [ptr wb 0, ptr ob 7, int bk] [resW wb ob c b, resO ob e p3 p5 p6 (is v), oweRes 3 1 (e.hashes.map fun n => [int n]) v] (int 0) [resW wb ob c ⟨b.endpoint, bk, c.number, b.at_, b.idn⟩, resO ob e p3 p5 p6 (ints (insX e.hashes c.number))] := by
 refine FunD.of Tryz.func184 rfl rfl (by exact Nat.le_of_ble_eq_true rfl) fun M0 w0 S rs M1 w1 => (Tr.seq (Tr.reg0 (cm rfl (Ch.nil (Fin.go (Tr.seq (Tr.regX mixed [none, none, some (0, 1, false, 0), none, none, none, none, some (0, 0, false, 0), some (0, 2, true, 0), none, none, none, none, none] (by kernel_rfl) (xm rfl (xo rfl (fun _ => okp_nilCheck rfl (vl rfl)) (xrd 1 rfl rfl (rd_load1 rfl one22 (vl rfl) rfl) (xm rfl (xo rfl (fun _ => okp_nilCheck rfl (vl rfl)) (xo rfl (fun _ => okp_fieldAddr rfl fo147_1 (vl rfl)) ?_)))))))))))))
 refine xo rfl (fun _ => okp_fieldAddr rfl fo49_2 (vl rfl)) (xrd 0 rfl rfl (rd_load1 rfl one3 (vl rfl) rfl) ?_)
 refine Cx.ef 2 rfl rfl (by decide) (ef_callc rfl rfl (by decide) rfl (w_BSWi (l := e.hashes) hs hl) ⟨ke rfl, ke rfl, trivial⟩) ?_
 refine xm rfl (xo rfl (fun _ => ok_extract rfl (vl rfl) rfl) (xo rfl (fun _ => ok_extract rfl (vl rfl) rfl) (xm rfl (xm rfl ?_))))
 refine Cx.nil ⟨rfl, ?_⟩
 refine FinX.done (AllC.cons (AllC.cons (AllC.cons (AllC.cons (AllC.map _))))) (Fin.go (wk5 0 1 2 7 8 rfl (Tr.seq (Tr.seq (Tr.reg0 (cm rfl (Ch.nil (Fin.go ?_))))))))
 refine Tr.cn rfl ?_ ?_ <;> intro h1 q1
 rw [h] at h1; exact absurd h1 (by decide)
 refine Tr.skip (Fin.go (Tr.seq (Tr.regX mixed [none, none, none, some (0, 1, false, 0), none, none, none, none, none, some (0, 0, false, 0), none, some (0, 2, true, 0), none, some (0, 1, true, 0)] (by kernel_rfl) (xm rfl (xm rfl (xo rfl (fun _ => okp_nilCheck rfl (vl rfl)) (xrd 1 rfl rfl (rd_load1 rfl one22 (vl rfl) rfl) (xm rfl (xm rfl (xo rfl (fun _ => okp_nilCheck rfl (vl rfl)) (xo rfl (fun _ => okp_fieldAddr rfl fo147_1 (vl rfl)) (xo rfl (fun _ => okp_fieldAddr rfl fo49_2 (vl rfl)) (xrd 0 rfl rfl (rd_load1 rfl one3 (vl rfl) rfl) ?_)))))))))))))
 refine xo rfl (fun _ => ok_buildSlice (xs := [.tmp 31]) (rows := [[_]]) rfl rfl Tryz.underlying22 sz3 z3 rfl (by decide) ⟨⟨(by exact rfl), (VL.le (vl rfl) (one_cellsP _))⟩, trivial⟩ (by decide)) ?_
 refine Cx.ef 2 rfl rfl (by decide) (ef_callc rfl rfl (by decide) rfl (w_InsWi (l := e.hashes) (x := c.number) (i := posI e.hashes c.number) (posI_le _ _) hl) ⟨ke rfl, ke rfl, ⟨_, rfl, full_le _ _⟩, trivial⟩) ?_
 refine xo rfl (fun _ => okp_nilCheck rfl (vl rfl)) (Cx.ef0 1 rfl rfl (ef_store rfl rfl (vl rfl) (VL.le (vl rfl) (one_cellsP _)) sz22 rfl (by exact Nat.le_of_ble_eq_true rfl) rfl) ?_)
 refine Cx.nil ⟨rfl, ?_⟩
 refine FinX.done (AllC.cons (AllC.cons (AllC.cons (AllC.cons (AllC.map _))))) (Fin.go (wk2 0 2 rfl (Tr.seq (Tr.regT ?_))))
 iterate 4 refine tm rfl ?_
 refine tp rfl (okp_nilCheck rfl (vl rfl)) (tp rfl (okp_fieldAddr rfl fo147_1 (vl rfl)) (tp rfl (okp_fieldAddr rfl fo49_2 (vl rfl)) (TO.rd 0 rfl rfl rfl (by decide) (rd_load1 rfl one3 (vl rfl) rfl) (tp rfl (okp_nilCheck rfl (vl rfl)) (tp rfl (okp_fieldAddr rfl fo147_2 (vl rfl)) (tp rfl (okp_fieldAddr rfl fo49_1 (vl rfl)) (TO.ef0 0 rfl rfl (ef_store rfl rfl (vl rfl) (VL.le (vl rfl) (one_cellsP _)) sz3 rfl (by exact Nat.le_of_ble_eq_true rfl) rfl) (tp rfl (okp_nilCheck rfl (vl rfl)) (tp rfl (okp_fieldAddr rfl fo147_2 (vl rfl)) (tp rfl (okp_fieldAddr rfl fo49_2 (vl rfl)) (TO.ef0 0 rfl rfl (ef_store rfl rfl (vl rfl) (VL.le (vl rfl) (one_cellsP _)) sz3 rfl (by exact Nat.le_of_ble_eq_true rfl) rfl) (TO.nil (Fin.go (Tr.weak [] trivial ?_))))))))))))))
 refine Tr.seq (Tr.reg0 (cm rfl (Ch.nil (Fin.go (Tr.ret (Fin.drop 2 (Fin.retD rfl (RVal.tmp rfl (Pr.le_refl _)) ?_ (List.Perm.refl _))))))))
 · exact Pr.le_refl _
set_option maxRecDepth 20000 in
theorem w_addHashY {e : Ept} {c b : Chg} {wb ob : Nat} {v : Value} {p3 p5 p6 : Pr}  (hs : AscI e.hashes) (hl : e.hashes.length ≤ 1000000) (h : hasX e.hashes c.number = false) : FunD Tryz.prog 149 [ptr wb 0] [resW wb ob c b, resO ob e p3 p5 p6 (is v), oweRes 3 1 (e.hashes.map fun n => [int n]) v] (int 0) [resW wb ob c ⟨b.endpoint, 10, c.number, b.at_, b.idn⟩, resO ob e p3 p5 p6 (ints (insX e.hashes c.number))] := by
 refine FunD.of Tryz.func149 rfl rfl (by exact Nat.le_of_ble_eq_true rfl) fun M0 w0 S rs M1 w1 => (Tr.seq (Tr.reg0 (cm rfl (Ch.nil (Fin.go (Tr.seq (Tr.regT (tm rfl (tm rfl (tp rfl (okp_nilCheck rfl (vl rfl)) (tp rfl (okp_fieldAddr rfl fo147_0 (vl rfl)) (TO.rd 0 rfl rfl rfl (by decide) (rd_load1 rfl one145 (vl rfl) rfl) (tp rfl (okp_nilCheck rfl (vl rfl)) ?_)))))))))))))
 refine tp rfl (okp_fieldAddr rfl fo35_7 (vl rfl)) ?_
 refine TO.callD _ rfl rfl (by decide) rfl (w_add7Y (e := e) (c := c) (b := b) hs hl h) ⟨ke rfl, ke rfl, ke rfl, trivial⟩ ((perm_at (j := 0) rfl).trans (List.Perm.cons _ ((perm_at (j := 0) rfl).trans (List.Perm.cons _ ((perm_at (j := 0) rfl).trans (List.Perm.cons _ (List.Perm.refl _))))))) ?_
 refine tm rfl (TO.nil (Fin.go (Tr.ret (Fin.retD rfl (RVal.tmp rfl (Pr.le_refl _)) ?_ (List.Perm.refl _)))))
 · exact Pr.le_refl _
set_option maxRecDepth 20000 in
theorem w_drop7T {e : Ept} {c b : Chg} {wb ob : Nat} {v : Value} {p3 p5 p6 : Pr} {bk : Int}  (hs : AscI e.hashes) (hl : e.hashes.length ≤ 1000000) (h : hasX e.hashes c.number = false) : FunD Tryz.prog 185 [ptr wb 0, ptr ob 7, int bk] [resW wb ob c b, resO ob e p3 p5 p6 (is v), oweRes 3 1 (e.hashes.map fun n => [int n]) v] (int 41) [] := by
 refine FunD.of Tryz.func185 rfl rfl (by exact Nat.le_of_ble_eq_true rfl) fun M0 w0 S rs M1 w1 => (Tr.seq (Tr.reg0 (cm rfl (Ch.nil (Fin.go (Tr.seq (Tr.regX mixed [none, none, some (0, 1, false, 0), none, none, none, none, some (0, 0, false, 0), some (0, 2, true, 0), none, none, none, none, none] (by kernel_rfl) (xm rfl (xo rfl (fun _ => okp_nilCheck rfl (vl rfl)) (xrd 1 rfl rfl (rd_load1 rfl one22 (vl rfl) rfl) (xm rfl (xo rfl (fun _ => okp_nilCheck rfl (vl rfl)) (xo rfl (fun _ => okp_fieldAddr rfl fo147_1 (vl rfl)) ?_)))))))))))))
 refine xo rfl (fun _ => okp_fieldAddr rfl fo49_2 (vl rfl)) (xrd 0 rfl rfl (rd_load1 rfl one3 (vl rfl) rfl) ?_)
 refine Cx.ef 2 rfl rfl (by decide) (ef_callc rfl rfl (by decide) rfl (w_BSWi (l := e.hashes) hs hl) ⟨ke rfl, ke rfl, trivial⟩) ?_
 refine xm rfl (xo rfl (fun _ => ok_extract rfl (vl rfl) rfl) (xo rfl (fun _ => ok_extract rfl (vl rfl) rfl) (xm rfl (xm rfl ?_))))
 refine Cx.nil ⟨rfl, ?_⟩
 refine FinX.done (AllC.cons (AllC.cons (AllC.cons (AllC.cons (AllC.map _))))) (Fin.go (wk5 0 1 2 7 8 rfl (Tr.seq (Tr.seq (Tr.reg0 (cm rfl (co rfl (ok_not rfl (vl rfl)) (Ch.nil (Fin.go ?_)))))))))
 refine Tr.cn rfl ?_ ?_ <;> intro h1 q1
 refine Tr.seq (Tr.reg0 (cm rfl (Ch.nil (Fin.go (Tr.ret (Fin.then_ret (Fin.drop 0 (Fin.drop 0 (Fin.drop 0 (Fin.retD rfl (RVal.tmp rfl (Pr.le_refl _)) ?_ (List.Perm.refl _)))))))))))
 · exact Pr.le_refl _
 rw [h] at h1; exact absurd h1 (by decide)
set_option maxRecDepth 20000 in
theorem w_dropHashT {e : Ept} {c b : Chg} {wb ob : Nat} {v : Value} {p3 p5 p6 : Pr}  (hs : AscI e.hashes) (hl : e.hashes.length ≤ 1000000) (h : hasX e.hashes c.number = false) : FunD Tryz.prog 150 [ptr wb 0] [resW wb ob c b, resO ob e p3 p5 p6 (is v), oweRes 3 1 (e.hashes.map fun n => [int n]) v] (int 41) [] := by
 refine FunD.of Tryz.func150 rfl rfl (by exact Nat.le_of_ble_eq_true rfl) fun M0 w0 S rs M1 w1 => (Tr.seq (Tr.reg0 (cm rfl (Ch.nil (Fin.go (Tr.seq (Tr.regT (tm rfl (tm rfl (tp rfl (okp_nilCheck rfl (vl rfl)) (tp rfl (okp_fieldAddr rfl fo147_0 (vl rfl)) (TO.rd 0 rfl rfl rfl (by decide) (rd_load1 rfl one145 (vl rfl) rfl) (tp rfl (okp_nilCheck rfl (vl rfl)) ?_)))))))))))))
 refine tp rfl (okp_fieldAddr rfl fo35_7 (vl rfl)) ?_
 refine TO.callD _ rfl rfl (by decide) rfl (w_drop7T (e := e) (c := c) (b := b) hs hl h) ⟨ke rfl, ke rfl, ke rfl, trivial⟩ ((perm_at (j := 0) rfl).trans (List.Perm.cons _ ((perm_at (j := 0) rfl).trans (List.Perm.cons _ ((perm_at (j := 0) rfl).trans (List.Perm.cons _ (List.Perm.refl _))))))) ?_
 refine tm rfl (TO.nil (Fin.go (Tr.ret (Fin.retD rfl (RVal.tmp rfl (Pr.le_refl _)) ?_ (List.Perm.refl _)))))
 · exact Pr.le_refl _
set_option maxRecDepth 20000 in
theorem w_drop7Y {e : Ept} {c b : Chg} {wb ob : Nat} {v : Value} {p3 p5 p6 : Pr} {bk : Int}  (hs : AscI e.hashes) (hl : e.hashes.length ≤ 1000000) (h : hasX e.hashes c.number = true) : FunD Tryz.prog 185 [ptr wb 0, ptr ob 7, int bk] [resW wb ob c b, resO ob e p3 p5 p6 (is v), oweRes 3 1 (e.hashes.map fun n => [int n]) v] (int 0) [resW wb ob c ⟨b.endpoint, bk, c.number, b.at_, b.idn⟩, resO ob e p3 p5 p6 (ints (e.hashes.eraseIdx (posI e.hashes c.number)))] := by
 refine FunD.of Tryz.func185 rfl rfl (by exact Nat.le_of_ble_eq_true rfl) fun M0 w0 S rs M1 w1 => ?_
 have hlt_ := hasX_lt h
 refine Tr.seq (Tr.reg0 (cm rfl (Ch.nil (Fin.go (Tr.seq (Tr.regX mixed [none, none, some (0, 1, false, 0), none, none, none, none, some (0, 0, false, 0), some (0, 2, true, 0), none, none, none, none, none] (by kernel_rfl) (xm rfl (xo rfl (fun _ => okp_nilCheck rfl (vl rfl)) (xrd 1 rfl rfl (rd_load1 rfl one22 (vl rfl) rfl) (xm rfl (xo rfl (fun _ => okp_nilCheck rfl (vl rfl)) (xo rfl (fun _ => okp_fieldAddr rfl fo147_1 (vl rfl)) (xo rfl (fun _ => okp_fieldAddr rfl fo49_2 (vl rfl)) ?_)))))))))))))
 refine xrd 0 rfl rfl (rd_load1 rfl one3 (vl rfl) rfl) ?_
 refine Cx.ef 2 rfl rfl (by decide) (ef_callc rfl rfl (by decide) rfl (w_BSWi (l := e.hashes) hs hl) ⟨ke rfl, ke rfl, trivial⟩) ?_
 refine xm rfl (xo rfl (fun _ => ok_extract rfl (vl rfl) rfl) (xo rfl (fun _ => ok_extract rfl (vl rfl) rfl) (xm rfl (xm rfl ?_))))
 refine Cx.nil ⟨rfl, ?_⟩
 refine FinX.done (AllC.cons (AllC.cons (AllC.cons (AllC.cons (AllC.map _))))) (Fin.go (wk5 0 1 2 7 8 rfl (Tr.seq (Tr.seq (Tr.reg0 (cm rfl (co rfl (ok_not rfl (vl rfl)) (Ch.nil (Fin.go ?_)))))))))
 refine Tr.cn rfl ?_ ?_ <;> intro h1 q1
 rw [h] at h1; exact absurd h1 (by decide)
 refine Tr.skip (Fin.go (Tr.seq (Tr.regT (tm rfl (tm rfl (tp rfl (okp_nilCheck rfl (vl rfl)) (TO.rd 1 rfl rfl rfl (by decide) (rd_load1 rfl one22 (vl rfl) rfl) (tm rfl (tm rfl ?_)))))))))
 refine tp rfl (ok_add rfl (vl rfl) (vl rfl) ?hin) ?_; case hin => unfold InI; omega
 refine TO.efc 2 rfl rfl (by decide) (ef_callc rfl rfl (by decide) rfl (w_DelWi (l := e.hashes) (i := posI e.hashes c.number) (hasX_lt h) hl) ⟨ke rfl, ⟨_, rfl, int_eq (by omega)⟩, ⟨_, rfl, int_eq (by omega)⟩, trivial⟩) ?_
 refine tp rfl (okp_nilCheck rfl (vl rfl)) (TO.ef0 1 rfl rfl (ef_store rfl rfl (vl rfl) (VL.le (vl rfl) (one_cellsP _)) sz22 rfl (by exact Nat.le_of_ble_eq_true rfl) rfl) (TO.nil (Fin.go (wk2 0 2 rfl (Tr.seq (Tr.regT ?_))))))
 iterate 4 refine tm rfl ?_
 refine tp rfl (okp_nilCheck rfl (vl rfl)) (tp rfl (okp_fieldAddr rfl fo147_1 (vl rfl)) (tp rfl (okp_fieldAddr rfl fo49_2 (vl rfl)) (TO.rd 0 rfl rfl rfl (by decide) (rd_load1 rfl one3 (vl rfl) rfl) (tp rfl (okp_nilCheck rfl (vl rfl)) (tp rfl (okp_fieldAddr rfl fo147_2 (vl rfl)) (tp rfl (okp_fieldAddr rfl fo49_1 (vl rfl)) (TO.ef0 0 rfl rfl (ef_store rfl rfl (vl rfl) (VL.le (vl rfl) (one_cellsP _)) sz3 rfl (by exact Nat.le_of_ble_eq_true rfl) rfl) (tp rfl (okp_nilCheck rfl (vl rfl)) (tp rfl (okp_fieldAddr rfl fo147_2 (vl rfl)) (tp rfl (okp_fieldAddr rfl fo49_2 (vl rfl)) (TO.ef0 0 rfl rfl (ef_store rfl rfl (vl rfl) (VL.le (vl rfl) (one_cellsP _)) sz3 rfl (by exact Nat.le_of_ble_eq_true rfl) rfl) (TO.nil (Fin.go (Tr.weak [] trivial ?_))))))))))))))
 refine Tr.seq (Tr.reg0 (cm rfl (Ch.nil (Fin.go (Tr.ret (Fin.drop 2 (Fin.retD rfl (RVal.tmp rfl (Pr.le_refl _)) ?_ (List.Perm.refl _))))))))
 · exact Pr.le_refl _
set_option maxRecDepth 20000 in
theorem w_dropHashY {e : Ept} {c b : Chg} {wb ob : Nat} {v : Value} {p3 p5 p6 : Pr}  (hs : AscI e.hashes) (hl : e.hashes.length ≤ 1000000) (h : hasX e.hashes c.number = true) : FunD Tryz.prog 150 [ptr wb 0] [resW wb ob c b, resO ob e p3 p5 p6 (is v), oweRes 3 1 (e.hashes.map fun n => [int n]) v] (int 0) [resW wb ob c ⟨b.endpoint, 9, c.number, b.at_, b.idn⟩, resO ob e p3 p5 p6 (ints (e.hashes.eraseIdx (posI e.hashes c.number)))] := by
 refine FunD.of Tryz.func150 rfl rfl (by exact Nat.le_of_ble_eq_true rfl) fun M0 w0 S rs M1 w1 => (Tr.seq (Tr.reg0 (cm rfl (Ch.nil (Fin.go (Tr.seq (Tr.regT (tm rfl (tm rfl (tp rfl (okp_nilCheck rfl (vl rfl)) (tp rfl (okp_fieldAddr rfl fo147_0 (vl rfl)) (TO.rd 0 rfl rfl rfl (by decide) (rd_load1 rfl one145 (vl rfl) rfl) (tp rfl (okp_nilCheck rfl (vl rfl)) ?_)))))))))))))
 refine tp rfl (okp_fieldAddr rfl fo35_7 (vl rfl)) ?_
 refine TO.callD _ rfl rfl (by decide) rfl (w_drop7Y (e := e) (c := c) (b := b) hs hl h) ⟨ke rfl, ke rfl, ke rfl, trivial⟩ ((perm_at (j := 0) rfl).trans (List.Perm.cons _ ((perm_at (j := 0) rfl).trans (List.Perm.cons _ ((perm_at (j := 0) rfl).trans (List.Perm.cons _ (List.Perm.refl _))))))) ?_
 refine tm rfl (TO.nil (Fin.go (Tr.ret (Fin.retD rfl (RVal.tmp rfl (Pr.le_refl _)) ?_ (List.Perm.refl _)))))
 · exact Pr.le_refl _
set_option maxRecDepth 20000 in
theorem w_setNT {c b : Chg} {wb ob cb : Nat} {n : Int}  (h : n = c.number) : FunD Tryz.prog 178 [ptr wb 0, ptr cb 0] [resW wb ob c b, cellsRes true cb 3 [int n]] (int 41) [resW wb ob c b, cellsRes true cb 3 [int n]] := by
 refine FunD.of Tryz.func178 rfl rfl (by exact Nat.le_of_ble_eq_true rfl) fun M0 w0 S rs M1 w1 => (Tr.seq (Tr.reg0 (cm rfl (Ch.nil (Fin.go (Tr.seq (Tr.seq (Tr.reg1 mixed (by kernel_rfl) (cm rfl (co rfl (okp_nilCheck rfl (vl rfl)) (co rfl (ok_rd 1 rfl (rd_load1 rfl one3 (vl rfl) rfl)) (cm rfl (co rfl (okp_nilCheck rfl (vl rfl)) ?_)))))))))))))
 refine co rfl (okp_fieldAddr rfl fo147_1 (vl rfl)) (co rfl (okp_fieldAddr rfl fo49_2 (vl rfl)) (co rfl (ok_rd 0 rfl (rd_load1 rfl one3 (vl rfl) rfl)) (co rfl (ki rfl rfl rfl rfl) (Ch.nil (Fin.go ?_)))))
 refine Tr.cn rfl ?_ ?_ <;> intro h1 q1
 refine Tr.seq (Tr.reg0 (cm rfl (Ch.nil (Fin.go (Tr.ret (Fin.then_ret (Fin.retD rfl (RVal.tmp rfl (Pr.le_refl _)) ?_ (List.Perm.refl _))))))))
 · exact Pr.le_refl _
 exfalso; have := q1; omega
set_option maxRecDepth 20000 in
theorem w_setNY {c b : Chg} {wb ob cb : Nat} {n : Int}  (h : n ≠ c.number) : FunD Tryz.prog 178 [ptr wb 0, ptr cb 0] [resW wb ob c b, cellsRes true cb 3 [int n]] (int 0) [resW wb ob c ⟨b.endpoint, c.kind, n, b.at_, b.idn⟩, cellsRes true cb 3 [int c.number]] := by
 refine FunD.of Tryz.func178 rfl rfl (by exact Nat.le_of_ble_eq_true rfl) fun M0 w0 S rs M1 w1 => (Tr.seq (Tr.reg0 (cm rfl (Ch.nil (Fin.go (Tr.seq (Tr.seq (Tr.reg1 mixed (by kernel_rfl) (cm rfl (co rfl (okp_nilCheck rfl (vl rfl)) (co rfl (ok_rd 1 rfl (rd_load1 rfl one3 (vl rfl) rfl)) (cm rfl (co rfl (okp_nilCheck rfl (vl rfl)) ?_)))))))))))))
 refine co rfl (okp_fieldAddr rfl fo147_1 (vl rfl)) (co rfl (okp_fieldAddr rfl fo49_2 (vl rfl)) (co rfl (ok_rd 0 rfl (rd_load1 rfl one3 (vl rfl) rfl)) (co rfl (ki rfl rfl rfl rfl) (Ch.nil (Fin.go ?_)))))
 refine Tr.cn rfl ?_ ?_ <;> intro h1 q1
 exfalso; have := q1; omega
 refine Tr.skip (Fin.go (Tr.seq (Tr.regX mixed [none, none, none, none, none, none, some (0, 0, false, 0), none, none, some (0, 1, false, 0), none, none, none, some (0, 0, true, 0), none, none, none, some (0, 0, true, 0)] (by kernel_rfl) (xm rfl (xm rfl (xm rfl (xo rfl (fun _ => okp_nilCheck rfl (vl rfl)) (xo rfl (fun _ => okp_fieldAddr rfl fo147_1 (vl rfl)) (xo rfl (fun _ => okp_fieldAddr rfl fo49_1 (vl rfl)) (xrd 0 rfl rfl (rd_load1 rfl one3 (vl rfl) rfl) (xm rfl (xo rfl (fun _ => okp_nilCheck rfl (vl rfl)) (xrd 1 rfl rfl (rd_load1 rfl one3 (vl rfl) rfl) ?_)))))))))))))
 refine xo rfl (fun _ => okp_nilCheck rfl (vl rfl)) (xo rfl (fun _ => okp_fieldAddr rfl fo147_2 (vl rfl)) (xo rfl (fun _ => okp_fieldAddr rfl fo49_1 (vl rfl)) (Cx.ef0 0 rfl rfl (ef_store rfl rfl (vl rfl) (VL.le (vl rfl) (one_cellsP _)) sz3 rfl (by exact Nat.le_of_ble_eq_true rfl) rfl) (xo rfl (fun _ => okp_nilCheck rfl (vl rfl)) (xo rfl (fun _ => okp_fieldAddr rfl fo147_2 (vl rfl)) (xo rfl (fun _ => okp_fieldAddr rfl fo49_2 (vl rfl)) (Cx.ef0 0 rfl rfl (ef_store rfl rfl (vl rfl) (VL.le (vl rfl) (one_cellsP _)) sz3 rfl (by exact Nat.le_of_ble_eq_true rfl) rfl) ?_)))))))
 refine Cx.nil ⟨rfl, ?_⟩
 refine FinX.done (AllC.cons (AllC.cons (AllC.cons (AllC.map _)))) (Fin.go (wk2 0 1 rfl (Tr.seq (Tr.regT (tm rfl (tm rfl (tp rfl (okp_nilCheck rfl (vl rfl)) (tp rfl (okp_fieldAddr rfl fo147_1 (vl rfl)) (tp rfl (okp_fieldAddr rfl fo49_2 (vl rfl)) (TO.rd 0 rfl rfl rfl (by decide) (rd_load1 rfl one3 (vl rfl) rfl) (tp rfl (okp_nilCheck rfl (vl rfl)) (TO.store_all 1 rfl rfl rfl (vl rfl) (VL.le (vl rfl) (one_cellsP _)) rfl sz3 rfl rfl (TO.nil (Fin.go ?_))))))))))))))
 refine Tr.seq (Tr.reg0 (cm rfl (Ch.nil (Fin.go (Tr.ret (Fin.retD rfl (RVal.tmp rfl (Pr.le_refl _)) ?_ (List.Perm.refl _)))))))
 · exact Pr.le_refl _
set_option maxRecDepth 20000 in
theorem w_setMostT {e : Ept} {c b : Chg} {wb ob : Nat} {p3 p5 p6 p7 : Pr}  (h : e.most = c.number) : FunD Tryz.prog 178 [ptr wb 0, ptr ob 2] [resW wb ob c b, resO ob e p3 p5 p6 p7] (int 41) [resW wb ob c b, resO ob e p3 p5 p6 p7] := by
 refine FunD.of Tryz.func178 rfl rfl (by exact Nat.le_of_ble_eq_true rfl) fun M0 w0 S rs M1 w1 => (Tr.seq (Tr.reg0 (cm rfl (Ch.nil (Fin.go (Tr.seq (Tr.seq (Tr.reg1 mixed (by kernel_rfl) (cm rfl (co rfl (okp_nilCheck rfl (vl rfl)) (co rfl (ok_rd 1 rfl (rd_load1 rfl one3 (vl rfl) rfl)) (cm rfl (co rfl (okp_nilCheck rfl (vl rfl)) ?_)))))))))))))
 refine co rfl (okp_fieldAddr rfl fo147_1 (vl rfl)) (co rfl (okp_fieldAddr rfl fo49_2 (vl rfl)) (co rfl (ok_rd 0 rfl (rd_load1 rfl one3 (vl rfl) rfl)) (co rfl (ki rfl rfl rfl rfl) (Ch.nil (Fin.go ?_)))))
 refine Tr.cn rfl ?_ ?_ <;> intro h1 q1
 refine Tr.seq (Tr.reg0 (cm rfl (Ch.nil (Fin.go (Tr.ret (Fin.then_ret (Fin.retD rfl (RVal.tmp rfl (Pr.le_refl _)) ?_ (List.Perm.refl _))))))))
 · exact Pr.le_refl _
 exfalso; have := q1; omega
set_option maxRecDepth 20000 in
theorem w_setMostY {e : Ept} {c b : Chg} {wb ob : Nat} {p3 p5 p6 p7 : Pr}  (h : e.most ≠ c.number) : FunD Tryz.prog 178 [ptr wb 0, ptr ob 2] [resW wb ob c b, resO ob e p3 p5 p6 p7] (int 0) [resW wb ob c ⟨b.endpoint, c.kind, e.most, b.at_, b.idn⟩, resO ob { e with most := c.number } p3 p5 p6 p7] := by
 refine FunD.of Tryz.func178 rfl rfl (by exact Nat.le_of_ble_eq_true rfl) fun M0 w0 S rs M1 w1 => (Tr.seq (Tr.reg0 (cm rfl (Ch.nil (Fin.go (Tr.seq (Tr.seq (Tr.reg1 mixed (by kernel_rfl) (cm rfl (co rfl (okp_nilCheck rfl (vl rfl)) (co rfl (ok_rd 1 rfl (rd_load1 rfl one3 (vl rfl) rfl)) (cm rfl (co rfl (okp_nilCheck rfl (vl rfl)) ?_)))))))))))))
 refine co rfl (okp_fieldAddr rfl fo147_1 (vl rfl)) (co rfl (okp_fieldAddr rfl fo49_2 (vl rfl)) (co rfl (ok_rd 0 rfl (rd_load1 rfl one3 (vl rfl) rfl)) (co rfl (ki rfl rfl rfl rfl) (Ch.nil (Fin.go ?_)))))
 refine Tr.cn rfl ?_ ?_ <;> intro h1 q1
 exfalso; have := q1; omega
 refine Tr.skip (Fin.go (Tr.seq (Tr.regX mixed [none, none, none, none, none, none, some (0, 0, false, 0), none, none, some (0, 1, false, 0), none, none, none, some (0, 0, true, 0), none, none, none, some (0, 0, true, 0)] (by kernel_rfl) (xm rfl (xm rfl (xm rfl (xo rfl (fun _ => okp_nilCheck rfl (vl rfl)) (xo rfl (fun _ => okp_fieldAddr rfl fo147_1 (vl rfl)) (xo rfl (fun _ => okp_fieldAddr rfl fo49_1 (vl rfl)) (xrd 0 rfl rfl (rd_load1 rfl one3 (vl rfl) rfl) (xm rfl (xo rfl (fun _ => okp_nilCheck rfl (vl rfl)) (xrd 1 rfl rfl (rd_load1 rfl one3 (vl rfl) rfl) ?_)))))))))))))
 refine xo rfl (fun _ => okp_nilCheck rfl (vl rfl)) (xo rfl (fun _ => okp_fieldAddr rfl fo147_2 (vl rfl)) (xo rfl (fun _ => okp_fieldAddr rfl fo49_1 (vl rfl)) (Cx.ef0 0 rfl rfl (ef_store rfl rfl (vl rfl) (VL.le (vl rfl) (one_cellsP _)) sz3 rfl (by exact Nat.le_of_ble_eq_true rfl) rfl) (xo rfl (fun _ => okp_nilCheck rfl (vl rfl)) (xo rfl (fun _ => okp_fieldAddr rfl fo147_2 (vl rfl)) (xo rfl (fun _ => okp_fieldAddr rfl fo49_2 (vl rfl)) (Cx.ef0 0 rfl rfl (ef_store rfl rfl (vl rfl) (VL.le (vl rfl) (one_cellsP _)) sz3 rfl (by exact Nat.le_of_ble_eq_true rfl) rfl) ?_)))))))
 refine Cx.nil ⟨rfl, ?_⟩
 refine FinX.done (AllC.cons (AllC.cons (AllC.cons (AllC.map _)))) (Fin.go (wk2 0 1 rfl (Tr.seq (Tr.regT (tm rfl (tm rfl (tp rfl (okp_nilCheck rfl (vl rfl)) (tp rfl (okp_fieldAddr rfl fo147_1 (vl rfl)) (tp rfl (okp_fieldAddr rfl fo49_2 (vl rfl)) (TO.rd 0 rfl rfl rfl (by decide) (rd_load1 rfl one3 (vl rfl) rfl) (tp rfl (okp_nilCheck rfl (vl rfl)) (TO.ef0 1 rfl rfl (ef_store rfl rfl (vl rfl) (VL.le (vl rfl) (one_cellsP _)) sz3 rfl (by exact Nat.le_of_ble_eq_true rfl) rfl) (TO.nil (Fin.go ?_))))))))))))))
 refine Tr.seq (Tr.reg0 (cm rfl (Ch.nil (Fin.go (Tr.ret (Fin.retD rfl (RVal.tmp rfl (Pr.le_refl _)) ?_ (List.Perm.refl _)))))))
 · exact Pr.le_refl _
set_option maxRecDepth 20000 in
theorem w_fsetMostT {e : Ept} {c b : Chg} {wb ob : Nat} {p3 p5 p6 p7 : Pr}  (h : e.most = c.number) : FunD Tryz.prog 143 [ptr wb 0] [resW wb ob c b, resO ob e p3 p5 p6 p7] (int 41) [] := by
 refine FunD.of Tryz.func143 rfl rfl (by exact Nat.le_of_ble_eq_true rfl) fun M0 w0 S rs M1 w1 => (Tr.seq (Tr.reg0 (cm rfl (Ch.nil (Fin.go (Tr.seq (Tr.regT (tm rfl (tm rfl (tp rfl (okp_nilCheck rfl (vl rfl)) (tp rfl (okp_fieldAddr rfl fo147_0 (vl rfl)) (TO.rd 0 rfl rfl rfl (by decide) (rd_load1 rfl one145 (vl rfl) rfl) (tp rfl (okp_nilCheck rfl (vl rfl)) ?_)))))))))))))
 refine tp rfl (okp_fieldAddr rfl fo35_2 (vl rfl)) ?_
 refine TO.callD _ rfl rfl (by decide) rfl (w_setMostT (e := e) (c := c) (b := b) h) ⟨ke rfl, ke rfl, trivial⟩ ((perm_at (j := 0) rfl).trans (List.Perm.cons _ ((perm_at (j := 0) rfl).trans (List.Perm.cons _ (List.Perm.refl _))))) ?_
 refine tm rfl (TO.nil (Fin.go (Tr.ret (Fin.drop 0 (Fin.drop 0 (Fin.retD rfl (RVal.tmp rfl (Pr.le_refl _)) ?_ (List.Perm.refl _)))))))
 · exact Pr.le_refl _
set_option maxRecDepth 20000 in
theorem w_fsetMostY {e : Ept} {c b : Chg} {wb ob : Nat} {p3 p5 p6 p7 : Pr}  (h : e.most ≠ c.number) : FunD Tryz.prog 143 [ptr wb 0] [resW wb ob c b, resO ob e p3 p5 p6 p7] (int 0) [resW wb ob c ⟨b.endpoint, c.kind, e.most, b.at_, b.idn⟩, resO ob { e with most := c.number } p3 p5 p6 p7] := by
 refine FunD.of Tryz.func143 rfl rfl (by exact Nat.le_of_ble_eq_true rfl) fun M0 w0 S rs M1 w1 => (Tr.seq (Tr.reg0 (cm rfl (Ch.nil (Fin.go (Tr.seq (Tr.regT (tm rfl (tm rfl (tp rfl (okp_nilCheck rfl (vl rfl)) (tp rfl (okp_fieldAddr rfl fo147_0 (vl rfl)) (TO.rd 0 rfl rfl rfl (by decide) (rd_load1 rfl one145 (vl rfl) rfl) (tp rfl (okp_nilCheck rfl (vl rfl)) ?_)))))))))))))
 refine tp rfl (okp_fieldAddr rfl fo35_2 (vl rfl)) ?_
 refine TO.callD _ rfl rfl (by decide) rfl (w_setMostY (e := e) (c := c) (b := b) h) ⟨ke rfl, ke rfl, trivial⟩ ((perm_at (j := 0) rfl).trans (List.Perm.cons _ ((perm_at (j := 0) rfl).trans (List.Perm.cons _ (List.Perm.refl _))))) ?_
 refine tm rfl (TO.nil (Fin.go (Tr.ret (Fin.retD rfl (RVal.tmp rfl (Pr.le_refl _)) ?_ (List.Perm.refl _)))))
 · exact Pr.le_refl _
set_option maxRecDepth 20000 in
theorem w_setLeastT {e : Ept} {c b : Chg} {wb ob : Nat} {p3 p5 p6 p7 : Pr}  (h : e.least = c.number) : FunD Tryz.prog 178 [ptr wb 0, ptr ob 1] [resW wb ob c b, resO ob e p3 p5 p6 p7] (int 41) [resW wb ob c b, resO ob e p3 p5 p6 p7] := by
 refine FunD.of Tryz.func178 rfl rfl (by exact Nat.le_of_ble_eq_true rfl) fun M0 w0 S rs M1 w1 => (Tr.seq (Tr.reg0 (cm rfl (Ch.nil (Fin.go (Tr.seq (Tr.seq (Tr.reg1 mixed (by kernel_rfl) (cm rfl (co rfl (okp_nilCheck rfl (vl rfl)) (co rfl (ok_rd 1 rfl (rd_load1 rfl one3 (vl rfl) rfl)) (cm rfl (co rfl (okp_nilCheck rfl (vl rfl)) ?_)))))))))))))
 refine co rfl (okp_fieldAddr rfl fo147_1 (vl rfl)) (co rfl (okp_fieldAddr rfl fo49_2 (vl rfl)) (co rfl (ok_rd 0 rfl (rd_load1 rfl one3 (vl rfl) rfl)) (co rfl (ki rfl rfl rfl rfl) (Ch.nil (Fin.go ?_)))))
 refine Tr.cn rfl ?_ ?_ <;> intro h1 q1
 refine Tr.seq (Tr.reg0 (cm rfl (Ch.nil (Fin.go (Tr.ret (Fin.then_ret (Fin.retD rfl (RVal.tmp rfl (Pr.le_refl _)) ?_ (List.Perm.refl _))))))))
 · exact Pr.le_refl _
 exfalso; have := q1; omega
set_option maxRecDepth 20000 in
theorem w_setLeastY {e : Ept} {c b : Chg} {wb ob : Nat} {p3 p5 p6 p7 : Pr}  (h : e.least ≠ c.number) : FunD Tryz.prog 178 [ptr wb 0, ptr ob 1] [resW wb ob c b, resO ob e p3 p5 p6 p7] (int 0) [resW wb ob c ⟨b.endpoint, c.kind, e.least, b.at_, b.idn⟩, resO ob { e with least := c.number } p3 p5 p6 p7] := by
 refine FunD.of Tryz.func178 rfl rfl (by exact Nat.le_of_ble_eq_true rfl) fun M0 w0 S rs M1 w1 => (Tr.seq (Tr.reg0 (cm rfl (Ch.nil (Fin.go (Tr.seq (Tr.seq (Tr.reg1 mixed (by kernel_rfl) (cm rfl (co rfl (okp_nilCheck rfl (vl rfl)) (co rfl (ok_rd 1 rfl (rd_load1 rfl one3 (vl rfl) rfl)) (cm rfl (co rfl (okp_nilCheck rfl (vl rfl)) ?_)))))))))))))
 refine co rfl (okp_fieldAddr rfl fo147_1 (vl rfl)) (co rfl (okp_fieldAddr rfl fo49_2 (vl rfl)) (co rfl (ok_rd 0 rfl (rd_load1 rfl one3 (vl rfl) rfl)) (co rfl (ki rfl rfl rfl rfl) (Ch.nil (Fin.go ?_)))))
 refine Tr.cn rfl ?_ ?_ <;> intro h1 q1
 exfalso; have := q1; omega
 refine Tr.skip (Fin.go (Tr.seq (Tr.regX mixed [none, none, none, none, none, none, some (0, 0, false, 0), none, none, some (0, 1, false, 0), none, none, none, some (0, 0, true, 0), none, none, none, some (0, 0, true, 0)] (by kernel_rfl) (xm rfl (xm rfl (xm rfl (xo rfl (fun _ => okp_nilCheck rfl (vl rfl)) (xo rfl (fun _ => okp_fieldAddr rfl fo147_1 (vl rfl)) (xo rfl (fun _ => okp_fieldAddr rfl fo49_1 (vl rfl)) (xrd 0 rfl rfl (rd_load1 rfl one3 (vl rfl) rfl) (xm rfl (xo rfl (fun _ => okp_nilCheck rfl (vl rfl)) (xrd 1 rfl rfl (rd_load1 rfl one3 (vl rfl) rfl) ?_)))))))))))))
 refine xo rfl (fun _ => okp_nilCheck rfl (vl rfl)) (xo rfl (fun _ => okp_fieldAddr rfl fo147_2 (vl rfl)) (xo rfl (fun _ => okp_fieldAddr rfl fo49_1 (vl rfl)) (Cx.ef0 0 rfl rfl (ef_store rfl rfl (vl rfl) (VL.le (vl rfl) (one_cellsP _)) sz3 rfl (by exact Nat.le_of_ble_eq_true rfl) rfl) (xo rfl (fun _ => okp_nilCheck rfl (vl rfl)) (xo rfl (fun _ => okp_fieldAddr rfl fo147_2 (vl rfl)) (xo rfl (fun _ => okp_fieldAddr rfl fo49_2 (vl rfl)) (Cx.ef0 0 rfl rfl (ef_store rfl rfl (vl rfl) (VL.le (vl rfl) (one_cellsP _)) sz3 rfl (by exact Nat.le_of_ble_eq_true rfl) rfl) ?_)))))))
 refine Cx.nil ⟨rfl, ?_⟩
 refine FinX.done (AllC.cons (AllC.cons (AllC.cons (AllC.map _)))) (Fin.go (wk2 0 1 rfl (Tr.seq (Tr.regT (tm rfl (tm rfl (tp rfl (okp_nilCheck rfl (vl rfl)) (tp rfl (okp_fieldAddr rfl fo147_1 (vl rfl)) (tp rfl (okp_fieldAddr rfl fo49_2 (vl rfl)) (TO.rd 0 rfl rfl rfl (by decide) (rd_load1 rfl one3 (vl rfl) rfl) (tp rfl (okp_nilCheck rfl (vl rfl)) (TO.ef0 1 rfl rfl (ef_store rfl rfl (vl rfl) (VL.le (vl rfl) (one_cellsP _)) sz3 rfl (by exact Nat.le_of_ble_eq_true rfl) rfl) (TO.nil (Fin.go ?_))))))))))))))
 refine Tr.seq (Tr.reg0 (cm rfl (Ch.nil (Fin.go (Tr.ret (Fin.retD rfl (RVal.tmp rfl (Pr.le_refl _)) ?_ (List.Perm.refl _)))))))
 · exact Pr.le_refl _
set_option maxRecDepth 20000 in
theorem w_fsetLeastT {e : Ept} {c b : Chg} {wb ob : Nat} {p3 p5 p6 p7 : Pr}  (h : e.least = c.number) : FunD Tryz.prog 144 [ptr wb 0] [resW wb ob c b, resO ob e p3 p5 p6 p7] (int 41) [] := by
 refine FunD.of Tryz.func144 rfl rfl (by exact Nat.le_of_ble_eq_true rfl) fun M0 w0 S rs M1 w1 => (Tr.seq (Tr.reg0 (cm rfl (Ch.nil (Fin.go (Tr.seq (Tr.regT (tm rfl (tm rfl (tp rfl (okp_nilCheck rfl (vl rfl)) (tp rfl (okp_fieldAddr rfl fo147_0 (vl rfl)) (TO.rd 0 rfl rfl rfl (by decide) (rd_load1 rfl one145 (vl rfl) rfl) (tp rfl (okp_nilCheck rfl (vl rfl)) ?_)))))))))))))
 refine tp rfl (okp_fieldAddr rfl fo35_1 (vl rfl)) ?_
 refine TO.callD _ rfl rfl (by decide) rfl (w_setLeastT (e := e) (c := c) (b := b) h) ⟨ke rfl, ke rfl, trivial⟩ ((perm_at (j := 0) rfl).trans (List.Perm.cons _ ((perm_at (j := 0) rfl).trans (List.Perm.cons _ (List.Perm.refl _))))) ?_
 refine tm rfl (TO.nil (Fin.go (Tr.ret (Fin.drop 0 (Fin.drop 0 (Fin.retD rfl (RVal.tmp rfl (Pr.le_refl _)) ?_ (List.Perm.refl _)))))))
 · exact Pr.le_refl _
set_option maxRecDepth 20000 in
theorem w_fsetLeastY {e : Ept} {c b : Chg} {wb ob : Nat} {p3 p5 p6 p7 : Pr}  (h : e.least ≠ c.number) : FunD Tryz.prog 144 [ptr wb 0] [resW wb ob c b, resO ob e p3 p5 p6 p7] (int 0) [resW wb ob c ⟨b.endpoint, c.kind, e.least, b.at_, b.idn⟩, resO ob { e with least := c.number } p3 p5 p6 p7] := by
 refine FunD.of Tryz.func144 rfl rfl (by exact Nat.le_of_ble_eq_true rfl) fun M0 w0 S rs M1 w1 => (Tr.seq (Tr.reg0 (cm rfl (Ch.nil (Fin.go (Tr.seq (Tr.regT (tm rfl (tm rfl (tp rfl (okp_nilCheck rfl (vl rfl)) (tp rfl (okp_fieldAddr rfl fo147_0 (vl rfl)) (TO.rd 0 rfl rfl rfl (by decide) (rd_load1 rfl one145 (vl rfl) rfl) (tp rfl (okp_nilCheck rfl (vl rfl)) ?_)))))))))))))
 refine tp rfl (okp_fieldAddr rfl fo35_1 (vl rfl)) ?_
 refine TO.callD _ rfl rfl (by decide) rfl (w_setLeastY (e := e) (c := c) (b := b) h) ⟨ke rfl, ke rfl, trivial⟩ ((perm_at (j := 0) rfl).trans (List.Perm.cons _ ((perm_at (j := 0) rfl).trans (List.Perm.cons _ (List.Perm.refl _))))) ?_
 refine tm rfl (TO.nil (Fin.go (Tr.ret (Fin.retD rfl (RVal.tmp rfl (Pr.le_refl _)) ?_ (List.Perm.refl _)))))
 · exact Pr.le_refl _
abbrev bitI (b : Bool) : Int := if b then 1 else 0
set_option maxRecDepth 20000 in
theorem w_flagFallbackR {e : Ept} {c b : Chg} {wb ob : Nat} {p3 p5 p6 p7 : Pr}  (hr : ¬ (0 ≤ c.number ∧ c.number ≤ 1)) : FunD Tryz.prog 186 [ptr wb 0, ptr ob 8] [resW wb ob c b, resO ob e p3 p5 p6 p7] (int 2) [] := by
 refine FunD.of Tryz.func186 rfl rfl (by exact Nat.le_of_ble_eq_true rfl) fun M0 w0 S rs M1 w1 => (Tr.seq (Tr.reg0 (cm rfl (Ch.nil (Fin.go (Tr.seq (Tr.seq (Tr.reg0 (cm rfl (co rfl (okp_nilCheck rfl (vl rfl)) (co rfl (okp_fieldAddr rfl fo147_1 (vl rfl)) (co rfl (okp_fieldAddr rfl fo49_2 (vl rfl)) (co rfl (ok_rd 0 rfl (rd_load1 rfl one3 (vl rfl) rfl)) ?_)))))))))))))
 refine co rfl (ki rfl rfl rfl rfl) (cm rfl ?_)
 refine Ch.cs 13 rfl ?_ ?_ <;> intro h1 q1
 have hq13 := q1
 iterate 6 refine cnf h1 rfl ?_
 refine co rfl (kpt rfl rfl h1 rfl) (Ch.nil (Fin.go (wk3 0 1 20 rfl (Tr.cond rfl (fun _ => ?_) (fun h => nomatch h)))))
 refine Tr.seq (Tr.reg0 (cm rfl (Ch.nil (Fin.go (Tr.ret (Fin.then_ret (Fin.drop 0 (Fin.drop 0 (Fin.retD rfl (RVal.tmp rfl (Pr.le_refl _)) ?_ (List.Perm.refl _))))))))))
 · exact Pr.le_refl _
 refine cym h1 rfl (cy h1 rfl (okp_nilCheck rfl (vl rfl)) (cy h1 rfl (okp_fieldAddr rfl fo147_1 (vl rfl)) (cy h1 rfl (okp_fieldAddr rfl fo49_2 (vl rfl)) (cy h1 rfl (ok_rd 0 rfl (rd_load1 rfl one3 (vl rfl) rfl)) (cy h1 rfl (ki rfl rfl rfl rfl) (co rfl (kpf rfl rfl h1 rfl) (Ch.nil (Fin.go (wk3 0 1 20 rfl ?_)))))))))
 refine Tr.cn rfl ?_ ?_ <;> intro h2 q2
 refine Tr.seq (Tr.reg0 (cm rfl (Ch.nil (Fin.go (Tr.ret (Fin.then_ret (Fin.drop 0 (Fin.drop 0 (Fin.retD rfl (RVal.tmp rfl (Pr.le_refl _)) ?_ (List.Perm.refl _))))))))))
 · exact Pr.le_refl _
 exfalso; simp_all
set_option maxRecDepth 20000 in
theorem w_fsetFallbackR {e : Ept} {c b : Chg} {wb ob : Nat} {p3 p5 p6 p7 : Pr}  (hr : ¬ (0 ≤ c.number ∧ c.number ≤ 1)) : FunD Tryz.prog 151 [ptr wb 0] [resW wb ob c b, resO ob e p3 p5 p6 p7] (int 2) [] := by
 refine FunD.of Tryz.func151 rfl rfl (by exact Nat.le_of_ble_eq_true rfl) fun M0 w0 S rs M1 w1 => (Tr.seq (Tr.reg0 (cm rfl (Ch.nil (Fin.go (Tr.seq (Tr.regT (tm rfl (tm rfl (tp rfl (okp_nilCheck rfl (vl rfl)) (tp rfl (okp_fieldAddr rfl fo147_0 (vl rfl)) (TO.rd 0 rfl rfl rfl (by decide) (rd_load1 rfl one145 (vl rfl) rfl) (tp rfl (okp_nilCheck rfl (vl rfl)) ?_)))))))))))))
 refine tp rfl (okp_fieldAddr rfl fo35_8 (vl rfl)) ?_
 refine TO.callD _ rfl rfl (by decide) rfl (w_flagFallbackR (e := e) (c := c) (b := b) hr) ⟨ke rfl, ke rfl, trivial⟩ ((perm_at (j := 0) rfl).trans (List.Perm.cons _ ((perm_at (j := 0) rfl).trans (List.Perm.cons _ (List.Perm.refl _))))) ?_
 refine tm rfl (TO.nil (Fin.go (Tr.ret (Fin.retD rfl (RVal.tmp rfl (Pr.le_refl _)) ?_ (List.Perm.refl _)))))
 · exact Pr.le_refl _
set_option maxRecDepth 20000 in
theorem w_flagFallbackT {e : Ept} {c b : Chg} {wb ob : Nat} {p3 p5 p6 p7 : Pr} {k : Int}  (hr : 0 ≤ c.number ∧ c.number ≤ 1) (hk : bitI e.fall = k) (h : k = c.number) : FunD Tryz.prog 186 [ptr wb 0, ptr ob 8] [resW wb ob c b, resO ob e p3 p5 p6 p7] (int 41) [] := by
 refine FunD.of Tryz.func186 rfl rfl (by exact Nat.le_of_ble_eq_true rfl) fun M0 w0 S rs M1 w1 => (Tr.seq (Tr.reg0 (cm rfl (Ch.nil (Fin.go (Tr.seq (Tr.seq (Tr.reg0 (cm rfl (co rfl (okp_nilCheck rfl (vl rfl)) (co rfl (okp_fieldAddr rfl fo147_1 (vl rfl)) (co rfl (okp_fieldAddr rfl fo49_2 (vl rfl)) (co rfl (ok_rd 0 rfl (rd_load1 rfl one3 (vl rfl) rfl)) ?_)))))))))))))
 refine co rfl (ki rfl rfl rfl rfl) (cm rfl ?_)
 refine Ch.cs 13 rfl ?_ ?_ <;> intro h1 q1
 exfalso; have := q1; omega
 refine cym h1 rfl (cy h1 rfl (okp_nilCheck rfl (vl rfl)) (cy h1 rfl (okp_fieldAddr rfl fo147_1 (vl rfl)) (cy h1 rfl (okp_fieldAddr rfl fo49_2 (vl rfl)) (cy h1 rfl (ok_rd 0 rfl (rd_load1 rfl one3 (vl rfl) rfl)) (cy h1 rfl (ki rfl rfl rfl rfl) (co rfl (kpf rfl rfl h1 rfl) (Ch.nil (Fin.go (wk3 0 1 20 rfl ?_)))))))))
 refine Tr.cn rfl ?_ ?_ <;> intro h2 q2
 exfalso; simp_all; omega
 refine Tr.skip (Fin.go (Tr.seq (Tr.regT ?_)))
 refine TO.alloc rfl rfl (by decide) rfl z3 zo3 (fun b1 => ?_)
 refine TO.store_all 0 rfl rfl rfl (vl rfl) (VL.le (vl rfl) (one_cellsP _)) rfl sz3 rfl rfl (TO.nil (Fin.go (Tr.seq (Tr.seq (Tr.reg0 (cm rfl (co rfl (okp_nilCheck rfl (vl rfl)) (co rfl (ok_rd 2 rfl (rd_load1 rfl one4 (vl rfl) rfl)) (Ch.nil (Fin.go ?_))))))))))
 refine Tr.cn rfl ?_ ?_ <;> intro h3 q3
 obtain rfl : k = 1 := by rw [← hk]; unfold bitI; simp_all
 refine Tr.regT (TO.store_all 0 rfl rfl rfl (vl rfl) (VL.le (vl rfl) (one_cellsP _)) rfl sz3 rfl rfl (TO.nil (Fin.go (Tr.seq (Tr.regT (tm rfl ?_))))))
 refine TO.callD _ rfl rfl (by decide) rfl (w_setNT (c := c) (b := b) h) ⟨ke rfl, ke rfl, trivial⟩ ((perm_at (j := 1) rfl).trans (List.Perm.cons _ ((perm_at (j := 0) rfl).trans (List.Perm.cons _ (List.Perm.refl _))))) ?_
 refine tm rfl (TO.nil (Fin.go (Tr.seq (Tr.regT (tm rfl (TO.rd 1 rfl rfl rfl (by decide) (rd_load1 rfl one3 (vl rfl) rfl) (tp rfl (ki rfl rfl rfl rfl) (tp rfl (okp_nilCheck rfl (vl rfl)) (TO.ef0 2 rfl rfl (ef_store rfl rfl (vl rfl) (VL.le (vl rfl) (one_cellsP _)) sz4 rfl (by exact Nat.le_of_ble_eq_true rfl) rfl) (TO.nil (Fin.go (Tr.drop 1 (wk1 6 rfl (Tr.seq ?_))))))))))))))
 refine Tr.reg0 (cm rfl (cm rfl (Ch.nil (Fin.go (Tr.ret (Fin.drop 0 (Fin.drop 0 (Fin.retD rfl (RVal.tmp rfl (Pr.le_refl _)) ?_ (List.Perm.refl _)))))))))
 · exact Pr.le_refl _
 obtain rfl : k = 0 := by rw [← hk]; unfold bitI; simp_all
 refine Tr.skip (Fin.go (Tr.seq (Tr.regT (tm rfl ?_))))
 refine TO.callD _ rfl rfl (by decide) rfl (w_setNT (c := c) (b := b) h) ⟨ke rfl, ke rfl, trivial⟩ ((perm_at (j := 1) rfl).trans (List.Perm.cons _ ((perm_at (j := 0) rfl).trans (List.Perm.cons _ (List.Perm.refl _))))) ?_
 refine tm rfl (TO.nil (Fin.go (Tr.seq (Tr.regT (tm rfl (TO.rd 1 rfl rfl rfl (by decide) (rd_load1 rfl one3 (vl rfl) rfl) (tp rfl (ki rfl rfl rfl rfl) (tp rfl (okp_nilCheck rfl (vl rfl)) (TO.ef0 2 rfl rfl (ef_store rfl rfl (vl rfl) (VL.le (vl rfl) (one_cellsP _)) sz4 rfl (by exact Nat.le_of_ble_eq_true rfl) rfl) (TO.nil (Fin.go (Tr.drop 1 (wk1 6 rfl (Tr.seq ?_))))))))))))))
 refine Tr.reg0 (cm rfl (cm rfl (Ch.nil (Fin.go (Tr.ret (Fin.drop 0 (Fin.drop 0 (Fin.retD rfl (RVal.tmp rfl (Pr.le_refl _)) ?_ (List.Perm.refl _)))))))))
 · exact Pr.le_refl _
set_option maxRecDepth 20000 in
theorem w_fsetFallbackT {e : Ept} {c b : Chg} {wb ob : Nat} {p3 p5 p6 p7 : Pr} {k : Int}  (hr : 0 ≤ c.number ∧ c.number ≤ 1) (hk : bitI e.fall = k) (h : k = c.number) : FunD Tryz.prog 151 [ptr wb 0] [resW wb ob c b, resO ob e p3 p5 p6 p7] (int 41) [] := by
 refine FunD.of Tryz.func151 rfl rfl (by exact Nat.le_of_ble_eq_true rfl) fun M0 w0 S rs M1 w1 => (Tr.seq (Tr.reg0 (cm rfl (Ch.nil (Fin.go (Tr.seq (Tr.regT (tm rfl (tm rfl (tp rfl (okp_nilCheck rfl (vl rfl)) (tp rfl (okp_fieldAddr rfl fo147_0 (vl rfl)) (TO.rd 0 rfl rfl rfl (by decide) (rd_load1 rfl one145 (vl rfl) rfl) (tp rfl (okp_nilCheck rfl (vl rfl)) ?_)))))))))))))
 refine tp rfl (okp_fieldAddr rfl fo35_8 (vl rfl)) ?_
 refine TO.callD _ rfl rfl (by decide) rfl (w_flagFallbackT (e := e) (c := c) (b := b) hr hk h) ⟨ke rfl, ke rfl, trivial⟩ ((perm_at (j := 0) rfl).trans (List.Perm.cons _ ((perm_at (j := 0) rfl).trans (List.Perm.cons _ (List.Perm.refl _))))) ?_
 refine tm rfl (TO.nil (Fin.go (Tr.ret (Fin.retD rfl (RVal.tmp rfl (Pr.le_refl _)) ?_ (List.Perm.refl _)))))
 · exact Pr.le_refl _
set_option maxRecDepth 20000 in
theorem w_flagFallbackY {e : Ept} {c b : Chg} {wb ob : Nat} {p3 p5 p6 p7 : Pr} {k : Int}  (hr : 0 ≤ c.number ∧ c.number ≤ 1) (hk : bitI e.fall = k) (h : k ≠ c.number) : FunD Tryz.prog 186 [ptr wb 0, ptr ob 8] [resW wb ob c b, resO ob e p3 p5 p6 p7] (int 0) [resW wb ob c ⟨b.endpoint, c.kind, k, b.at_, b.idn⟩, resO ob { e with fall := (c.number == 1) } p3 p5 p6 p7] := by
 refine FunD.of Tryz.func186 rfl rfl (by exact Nat.le_of_ble_eq_true rfl) fun M0 w0 S rs M1 w1 => (Tr.seq (Tr.reg0 (cm rfl (Ch.nil (Fin.go (Tr.seq (Tr.seq (Tr.reg0 (cm rfl (co rfl (okp_nilCheck rfl (vl rfl)) (co rfl (okp_fieldAddr rfl fo147_1 (vl rfl)) (co rfl (okp_fieldAddr rfl fo49_2 (vl rfl)) (co rfl (ok_rd 0 rfl (rd_load1 rfl one3 (vl rfl) rfl)) ?_)))))))))))))
 refine co rfl (ki rfl rfl rfl rfl) (cm rfl ?_)
 refine Ch.cs 13 rfl ?_ ?_ <;> intro h1 q1
 exfalso; have := q1; omega
 refine cym h1 rfl (cy h1 rfl (okp_nilCheck rfl (vl rfl)) (cy h1 rfl (okp_fieldAddr rfl fo147_1 (vl rfl)) (cy h1 rfl (okp_fieldAddr rfl fo49_2 (vl rfl)) (cy h1 rfl (ok_rd 0 rfl (rd_load1 rfl one3 (vl rfl) rfl)) (cy h1 rfl (ki rfl rfl rfl rfl) (co rfl (kpf rfl rfl h1 rfl) (Ch.nil (Fin.go (wk3 0 1 20 rfl ?_)))))))))
 refine Tr.cn rfl ?_ ?_ <;> intro h2 q2
 exfalso; simp_all; omega
 refine Tr.skip (Fin.go (Tr.seq (Tr.regT ?_)))
 refine TO.alloc rfl rfl (by decide) rfl z3 zo3 (fun b1 => ?_)
 refine TO.store_all 0 rfl rfl rfl (vl rfl) (VL.le (vl rfl) (one_cellsP _)) rfl sz3 rfl rfl (TO.nil (Fin.go (Tr.seq (Tr.seq (Tr.reg0 (cm rfl (co rfl (okp_nilCheck rfl (vl rfl)) (co rfl (ok_rd 2 rfl (rd_load1 rfl one4 (vl rfl) rfl)) (Ch.nil (Fin.go ?_))))))))))
 refine Tr.cn rfl ?_ ?_ <;> intro h3 q3
 obtain rfl : k = 1 := by rw [← hk]; unfold bitI; simp_all
 refine Tr.regT (TO.store_all 0 rfl rfl rfl (vl rfl) (VL.le (vl rfl) (one_cellsP _)) rfl sz3 rfl rfl (TO.nil (Fin.go (Tr.seq (Tr.regT (tm rfl ?_))))))
 refine TO.callD _ rfl rfl (by decide) rfl (w_setNY (c := c) (b := b) h) ⟨ke rfl, ke rfl, trivial⟩ ((perm_at (j := 1) rfl).trans (List.Perm.cons _ ((perm_at (j := 0) rfl).trans (List.Perm.cons _ (List.Perm.refl _))))) ?_
 refine tm rfl (TO.nil (Fin.go (Tr.seq (Tr.regT (tm rfl (TO.rd 1 rfl rfl rfl (by decide) (rd_load1 rfl one3 (vl rfl) rfl) (tp rfl (ki rfl rfl rfl rfl) (tp rfl (okp_nilCheck rfl (vl rfl)) (TO.ef0 2 rfl rfl (ef_store rfl rfl (vl rfl) (VL.le (vl rfl) (one_cellsP _)) sz4 rfl (by exact Nat.le_of_ble_eq_true rfl) rfl) (TO.nil (Fin.go (Tr.drop 1 (wk1 6 rfl (Tr.seq ?_))))))))))))))
 refine Tr.reg0 (cm rfl (cm rfl (Ch.nil (Fin.go (Tr.ret (Fin.retD rfl (RVal.tmp rfl (Pr.le_refl _)) ?_ (List.Perm.refl _)))))))
 · exact Pr.le_refl _
 obtain rfl : k = 0 := by rw [← hk]; unfold bitI; simp_all
 refine Tr.skip (Fin.go (Tr.seq (Tr.regT (tm rfl ?_))))
 refine TO.callD _ rfl rfl (by decide) rfl (w_setNY (c := c) (b := b) h) ⟨ke rfl, ke rfl, trivial⟩ ((perm_at (j := 1) rfl).trans (List.Perm.cons _ ((perm_at (j := 0) rfl).trans (List.Perm.cons _ (List.Perm.refl _))))) ?_
 refine tm rfl (TO.nil (Fin.go (Tr.seq (Tr.regT (tm rfl (TO.rd 1 rfl rfl rfl (by decide) (rd_load1 rfl one3 (vl rfl) rfl) (tp rfl (ki rfl rfl rfl rfl) (tp rfl (okp_nilCheck rfl (vl rfl)) (TO.ef0 2 rfl rfl (ef_store rfl rfl (vl rfl) (VL.le (vl rfl) (one_cellsP _)) sz4 rfl (by exact Nat.le_of_ble_eq_true rfl) rfl) (TO.nil (Fin.go (Tr.drop 1 (wk1 6 rfl (Tr.seq ?_))))))))))))))
 refine Tr.reg0 (cm rfl (cm rfl (Ch.nil (Fin.go (Tr.ret (Fin.retD rfl (RVal.tmp rfl (Pr.le_refl _)) ?_ (List.Perm.refl _)))))))
 · exact Pr.le_refl _
set_option maxRecDepth 20000 in
theorem w_fsetFallbackY {e : Ept} {c b : Chg} {wb ob : Nat} {p3 p5 p6 p7 : Pr} {k : Int}  (hr : 0 ≤ c.number ∧ c.number ≤ 1) (hk : bitI e.fall = k) (h : k ≠ c.number) : FunD Tryz.prog 151 [ptr wb 0] [resW wb ob c b, resO ob e p3 p5 p6 p7] (int 0) [resW wb ob c ⟨b.endpoint, c.kind, k, b.at_, b.idn⟩, resO ob { e with fall := (c.number == 1) } p3 p5 p6 p7] := by
 refine FunD.of Tryz.func151 rfl rfl (by exact Nat.le_of_ble_eq_true rfl) fun M0 w0 S rs M1 w1 => (Tr.seq (Tr.reg0 (cm rfl (Ch.nil (Fin.go (Tr.seq (Tr.regT (tm rfl (tm rfl (tp rfl (okp_nilCheck rfl (vl rfl)) (tp rfl (okp_fieldAddr rfl fo147_0 (vl rfl)) (TO.rd 0 rfl rfl rfl (by decide) (rd_load1 rfl one145 (vl rfl) rfl) (tp rfl (okp_nilCheck rfl (vl rfl)) ?_)))))))))))))
 refine tp rfl (okp_fieldAddr rfl fo35_8 (vl rfl)) ?_
 refine TO.callD _ rfl rfl (by decide) rfl (w_flagFallbackY (e := e) (c := c) (b := b) hr hk h) ⟨ke rfl, ke rfl, trivial⟩ ((perm_at (j := 0) rfl).trans (List.Perm.cons _ ((perm_at (j := 0) rfl).trans (List.Perm.cons _ (List.Perm.refl _))))) ?_
 refine tm rfl (TO.nil (Fin.go (Tr.ret (Fin.retD rfl (RVal.tmp rfl (Pr.le_refl _)) ?_ (List.Perm.refl _)))))
 · exact Pr.le_refl _
set_option maxRecDepth 20000 in
theorem w_flagOrderR {e : Ept} {c b : Chg} {wb ob : Nat} {p3 p5 p6 p7 : Pr}  (hr : ¬ (0 ≤ c.number ∧ c.number ≤ 1)) : FunD Tryz.prog 186 [ptr wb 0, ptr ob 4] [resW wb ob c b, resO ob e p3 p5 p6 p7] (int 2) [] := by
 refine FunD.of Tryz.func186 rfl rfl (by exact Nat.le_of_ble_eq_true rfl) fun M0 w0 S rs M1 w1 => (Tr.seq (Tr.reg0 (cm rfl (Ch.nil (Fin.go (Tr.seq (Tr.seq (Tr.reg0 (cm rfl (co rfl (okp_nilCheck rfl (vl rfl)) (co rfl (okp_fieldAddr rfl fo147_1 (vl rfl)) (co rfl (okp_fieldAddr rfl fo49_2 (vl rfl)) (co rfl (ok_rd 0 rfl (rd_load1 rfl one3 (vl rfl) rfl)) ?_)))))))))))))
 refine co rfl (ki rfl rfl rfl rfl) (cm rfl ?_)
 refine Ch.cs 13 rfl ?_ ?_ <;> intro h1 q1
 have hq13 := q1
 iterate 6 refine cnf h1 rfl ?_
 refine co rfl (kpt rfl rfl h1 rfl) (Ch.nil (Fin.go (wk3 0 1 20 rfl (Tr.cond rfl (fun _ => ?_) (fun h => nomatch h)))))
 refine Tr.seq (Tr.reg0 (cm rfl (Ch.nil (Fin.go (Tr.ret (Fin.then_ret (Fin.drop 0 (Fin.drop 0 (Fin.retD rfl (RVal.tmp rfl (Pr.le_refl _)) ?_ (List.Perm.refl _))))))))))
 · exact Pr.le_refl _
 refine cym h1 rfl (cy h1 rfl (okp_nilCheck rfl (vl rfl)) (cy h1 rfl (okp_fieldAddr rfl fo147_1 (vl rfl)) (cy h1 rfl (okp_fieldAddr rfl fo49_2 (vl rfl)) (cy h1 rfl (ok_rd 0 rfl (rd_load1 rfl one3 (vl rfl) rfl)) (cy h1 rfl (ki rfl rfl rfl rfl) (co rfl (kpf rfl rfl h1 rfl) (Ch.nil (Fin.go (wk3 0 1 20 rfl ?_)))))))))
 refine Tr.cn rfl ?_ ?_ <;> intro h2 q2
 refine Tr.seq (Tr.reg0 (cm rfl (Ch.nil (Fin.go (Tr.ret (Fin.then_ret (Fin.drop 0 (Fin.drop 0 (Fin.retD rfl (RVal.tmp rfl (Pr.le_refl _)) ?_ (List.Perm.refl _))))))))))
 · exact Pr.le_refl _
 exfalso; simp_all
set_option maxRecDepth 20000 in
theorem w_fsetOrderR {e : Ept} {c b : Chg} {wb ob : Nat} {p3 p5 p6 p7 : Pr}  (hr : ¬ (0 ≤ c.number ∧ c.number ≤ 1)) : FunD Tryz.prog 152 [ptr wb 0] [resW wb ob c b, resO ob e p3 p5 p6 p7] (int 2) [] := by
 refine FunD.of Tryz.func152 rfl rfl (by exact Nat.le_of_ble_eq_true rfl) fun M0 w0 S rs M1 w1 => (Tr.seq (Tr.reg0 (cm rfl (Ch.nil (Fin.go (Tr.seq (Tr.regT (tm rfl (tm rfl (tp rfl (okp_nilCheck rfl (vl rfl)) (tp rfl (okp_fieldAddr rfl fo147_0 (vl rfl)) (TO.rd 0 rfl rfl rfl (by decide) (rd_load1 rfl one145 (vl rfl) rfl) (tp rfl (okp_nilCheck rfl (vl rfl)) ?_)))))))))))))
 refine tp rfl (okp_fieldAddr rfl fo35_4 (vl rfl)) ?_
 refine TO.callD _ rfl rfl (by decide) rfl (w_flagOrderR (e := e) (c := c) (b := b) hr) ⟨ke rfl, ke rfl, trivial⟩ ((perm_at (j := 0) rfl).trans (List.Perm.cons _ ((perm_at (j := 0) rfl).trans (List.Perm.cons _ (List.Perm.refl _))))) ?_
 refine tm rfl (TO.nil (Fin.go (Tr.ret (Fin.retD rfl (RVal.tmp rfl (Pr.le_refl _)) ?_ (List.Perm.refl _)))))
 · exact Pr.le_refl _
set_option maxRecDepth 20000 in
theorem w_flagOrderT {e : Ept} {c b : Chg} {wb ob : Nat} {p3 p5 p6 p7 : Pr} {k : Int}  (hr : 0 ≤ c.number ∧ c.number ≤ 1) (hk : bitI e.own = k) (h : k = c.number) : FunD Tryz.prog 186 [ptr wb 0, ptr ob 4] [resW wb ob c b, resO ob e p3 p5 p6 p7] (int 41) [] := by
 refine FunD.of Tryz.func186 rfl rfl (by exact Nat.le_of_ble_eq_true rfl) fun M0 w0 S rs M1 w1 => (Tr.seq (Tr.reg0 (cm rfl (Ch.nil (Fin.go (Tr.seq (Tr.seq (Tr.reg0 (cm rfl (co rfl (okp_nilCheck rfl (vl rfl)) (co rfl (okp_fieldAddr rfl fo147_1 (vl rfl)) (co rfl (okp_fieldAddr rfl fo49_2 (vl rfl)) (co rfl (ok_rd 0 rfl (rd_load1 rfl one3 (vl rfl) rfl)) ?_)))))))))))))
 refine co rfl (ki rfl rfl rfl rfl) (cm rfl ?_)
 refine Ch.cs 13 rfl ?_ ?_ <;> intro h1 q1
 exfalso; have := q1; omega
 refine cym h1 rfl (cy h1 rfl (okp_nilCheck rfl (vl rfl)) (cy h1 rfl (okp_fieldAddr rfl fo147_1 (vl rfl)) (cy h1 rfl (okp_fieldAddr rfl fo49_2 (vl rfl)) (cy h1 rfl (ok_rd 0 rfl (rd_load1 rfl one3 (vl rfl) rfl)) (cy h1 rfl (ki rfl rfl rfl rfl) (co rfl (kpf rfl rfl h1 rfl) (Ch.nil (Fin.go (wk3 0 1 20 rfl ?_)))))))))
 refine Tr.cn rfl ?_ ?_ <;> intro h2 q2
 exfalso; simp_all; omega
 refine Tr.skip (Fin.go (Tr.seq (Tr.regT ?_)))
 refine TO.alloc rfl rfl (by decide) rfl z3 zo3 (fun b1 => ?_)
 refine TO.store_all 0 rfl rfl rfl (vl rfl) (VL.le (vl rfl) (one_cellsP _)) rfl sz3 rfl rfl (TO.nil (Fin.go (Tr.seq (Tr.seq (Tr.reg0 (cm rfl (co rfl (okp_nilCheck rfl (vl rfl)) (co rfl (ok_rd 2 rfl (rd_load1 rfl one4 (vl rfl) rfl)) (Ch.nil (Fin.go ?_))))))))))
 refine Tr.cn rfl ?_ ?_ <;> intro h3 q3
 obtain rfl : k = 1 := by rw [← hk]; unfold bitI; simp_all
 refine Tr.regT (TO.store_all 0 rfl rfl rfl (vl rfl) (VL.le (vl rfl) (one_cellsP _)) rfl sz3 rfl rfl (TO.nil (Fin.go (Tr.seq (Tr.regT (tm rfl ?_))))))
 refine TO.callD _ rfl rfl (by decide) rfl (w_setNT (c := c) (b := b) h) ⟨ke rfl, ke rfl, trivial⟩ ((perm_at (j := 1) rfl).trans (List.Perm.cons _ ((perm_at (j := 0) rfl).trans (List.Perm.cons _ (List.Perm.refl _))))) ?_
 refine tm rfl (TO.nil (Fin.go (Tr.seq (Tr.regT (tm rfl (TO.rd 1 rfl rfl rfl (by decide) (rd_load1 rfl one3 (vl rfl) rfl) (tp rfl (ki rfl rfl rfl rfl) (tp rfl (okp_nilCheck rfl (vl rfl)) (TO.ef0 2 rfl rfl (ef_store rfl rfl (vl rfl) (VL.le (vl rfl) (one_cellsP _)) sz4 rfl (by exact Nat.le_of_ble_eq_true rfl) rfl) (TO.nil (Fin.go (Tr.drop 1 (wk1 6 rfl (Tr.seq ?_))))))))))))))
 refine Tr.reg0 (cm rfl (cm rfl (Ch.nil (Fin.go (Tr.ret (Fin.drop 0 (Fin.drop 0 (Fin.retD rfl (RVal.tmp rfl (Pr.le_refl _)) ?_ (List.Perm.refl _)))))))))
 · exact Pr.le_refl _
 obtain rfl : k = 0 := by rw [← hk]; unfold bitI; simp_all
 refine Tr.skip (Fin.go (Tr.seq (Tr.regT (tm rfl ?_))))
 refine TO.callD _ rfl rfl (by decide) rfl (w_setNT (c := c) (b := b) h) ⟨ke rfl, ke rfl, trivial⟩ ((perm_at (j := 1) rfl).trans (List.Perm.cons _ ((perm_at (j := 0) rfl).trans (List.Perm.cons _ (List.Perm.refl _))))) ?_
 refine tm rfl (TO.nil (Fin.go (Tr.seq (Tr.regT (tm rfl (TO.rd 1 rfl rfl rfl (by decide) (rd_load1 rfl one3 (vl rfl) rfl) (tp rfl (ki rfl rfl rfl rfl) (tp rfl (okp_nilCheck rfl (vl rfl)) (TO.ef0 2 rfl rfl (ef_store rfl rfl (vl rfl) (VL.le (vl rfl) (one_cellsP _)) sz4 rfl (by exact Nat.le_of_ble_eq_true rfl) rfl) (TO.nil (Fin.go (Tr.drop 1 (wk1 6 rfl (Tr.seq ?_))))))))))))))
 refine Tr.reg0 (cm rfl (cm rfl (Ch.nil (Fin.go (Tr.ret (Fin.drop 0 (Fin.drop 0 (Fin.retD rfl (RVal.tmp rfl (Pr.le_refl _)) ?_ (List.Perm.refl _)))))))))
 · exact Pr.le_refl _
set_option maxRecDepth 20000 in
theorem w_fsetOrderT {e : Ept} {c b : Chg} {wb ob : Nat} {p3 p5 p6 p7 : Pr} {k : Int}  (hr : 0 ≤ c.number ∧ c.number ≤ 1) (hk : bitI e.own = k) (h : k = c.number) : FunD Tryz.prog 152 [ptr wb 0] [resW wb ob c b, resO ob e p3 p5 p6 p7] (int 41) [] := by
 refine FunD.of Tryz.func152 rfl rfl (by exact Nat.le_of_ble_eq_true rfl) fun M0 w0 S rs M1 w1 => (Tr.seq (Tr.reg0 (cm rfl (Ch.nil (Fin.go (Tr.seq (Tr.regT (tm rfl (tm rfl (tp rfl (okp_nilCheck rfl (vl rfl)) (tp rfl (okp_fieldAddr rfl fo147_0 (vl rfl)) (TO.rd 0 rfl rfl rfl (by decide) (rd_load1 rfl one145 (vl rfl) rfl) (tp rfl (okp_nilCheck rfl (vl rfl)) ?_)))))))))))))
 refine tp rfl (okp_fieldAddr rfl fo35_4 (vl rfl)) ?_
 refine TO.callD _ rfl rfl (by decide) rfl (w_flagOrderT (e := e) (c := c) (b := b) hr hk h) ⟨ke rfl, ke rfl, trivial⟩ ((perm_at (j := 0) rfl).trans (List.Perm.cons _ ((perm_at (j := 0) rfl).trans (List.Perm.cons _ (List.Perm.refl _))))) ?_
 refine tm rfl (TO.nil (Fin.go (Tr.ret (Fin.retD rfl (RVal.tmp rfl (Pr.le_refl _)) ?_ (List.Perm.refl _)))))
 · exact Pr.le_refl _
set_option maxRecDepth 20000 in
theorem w_flagOrderY {e : Ept} {c b : Chg} {wb ob : Nat} {p3 p5 p6 p7 : Pr} {k : Int}  (hr : 0 ≤ c.number ∧ c.number ≤ 1) (hk : bitI e.own = k) (h : k ≠ c.number) : FunD Tryz.prog 186 [ptr wb 0, ptr ob 4] [resW wb ob c b, resO ob e p3 p5 p6 p7] (int 0) [resW wb ob c ⟨b.endpoint, c.kind, k, b.at_, b.idn⟩, resO ob { e with own := (c.number == 1) } p3 p5 p6 p7] := by
 refine FunD.of Tryz.func186 rfl rfl (by exact Nat.le_of_ble_eq_true rfl) fun M0 w0 S rs M1 w1 => (Tr.seq (Tr.reg0 (cm rfl (Ch.nil (Fin.go (Tr.seq (Tr.seq (Tr.reg0 (cm rfl (co rfl (okp_nilCheck rfl (vl rfl)) (co rfl (okp_fieldAddr rfl fo147_1 (vl rfl)) (co rfl (okp_fieldAddr rfl fo49_2 (vl rfl)) (co rfl (ok_rd 0 rfl (rd_load1 rfl one3 (vl rfl) rfl)) ?_)))))))))))))
 refine co rfl (ki rfl rfl rfl rfl) (cm rfl ?_)
 refine Ch.cs 13 rfl ?_ ?_ <;> intro h1 q1
 exfalso; have := q1; omega
 refine cym h1 rfl (cy h1 rfl (okp_nilCheck rfl (vl rfl)) (cy h1 rfl (okp_fieldAddr rfl fo147_1 (vl rfl)) (cy h1 rfl (okp_fieldAddr rfl fo49_2 (vl rfl)) (cy h1 rfl (ok_rd 0 rfl (rd_load1 rfl one3 (vl rfl) rfl)) (cy h1 rfl (ki rfl rfl rfl rfl) (co rfl (kpf rfl rfl h1 rfl) (Ch.nil (Fin.go (wk3 0 1 20 rfl ?_)))))))))
 refine Tr.cn rfl ?_ ?_ <;> intro h2 q2
 exfalso; simp_all; omega
 refine Tr.skip (Fin.go (Tr.seq (Tr.regT ?_)))
 refine TO.alloc rfl rfl (by decide) rfl z3 zo3 (fun b1 => ?_)
 refine TO.store_all 0 rfl rfl rfl (vl rfl) (VL.le (vl rfl) (one_cellsP _)) rfl sz3 rfl rfl (TO.nil (Fin.go (Tr.seq (Tr.seq (Tr.reg0 (cm rfl (co rfl (okp_nilCheck rfl (vl rfl)) (co rfl (ok_rd 2 rfl (rd_load1 rfl one4 (vl rfl) rfl)) (Ch.nil (Fin.go ?_))))))))))
 refine Tr.cn rfl ?_ ?_ <;> intro h3 q3
 obtain rfl : k = 1 := by rw [← hk]; unfold bitI; simp_all
 refine Tr.regT (TO.store_all 0 rfl rfl rfl (vl rfl) (VL.le (vl rfl) (one_cellsP _)) rfl sz3 rfl rfl (TO.nil (Fin.go (Tr.seq (Tr.regT (tm rfl ?_))))))
 refine TO.callD _ rfl rfl (by decide) rfl (w_setNY (c := c) (b := b) h) ⟨ke rfl, ke rfl, trivial⟩ ((perm_at (j := 1) rfl).trans (List.Perm.cons _ ((perm_at (j := 0) rfl).trans (List.Perm.cons _ (List.Perm.refl _))))) ?_
 refine tm rfl (TO.nil (Fin.go (Tr.seq (Tr.regT (tm rfl (TO.rd 1 rfl rfl rfl (by decide) (rd_load1 rfl one3 (vl rfl) rfl) (tp rfl (ki rfl rfl rfl rfl) (tp rfl (okp_nilCheck rfl (vl rfl)) (TO.ef0 2 rfl rfl (ef_store rfl rfl (vl rfl) (VL.le (vl rfl) (one_cellsP _)) sz4 rfl (by exact Nat.le_of_ble_eq_true rfl) rfl) (TO.nil (Fin.go (Tr.drop 1 (wk1 6 rfl (Tr.seq ?_))))))))))))))
 refine Tr.reg0 (cm rfl (cm rfl (Ch.nil (Fin.go (Tr.ret (Fin.retD rfl (RVal.tmp rfl (Pr.le_refl _)) ?_ (List.Perm.refl _)))))))
 · exact Pr.le_refl _
 obtain rfl : k = 0 := by rw [← hk]; unfold bitI; simp_all
 refine Tr.skip (Fin.go (Tr.seq (Tr.regT (tm rfl ?_))))
 refine TO.callD _ rfl rfl (by decide) rfl (w_setNY (c := c) (b := b) h) ⟨ke rfl, ke rfl, trivial⟩ ((perm_at (j := 1) rfl).trans (List.Perm.cons _ ((perm_at (j := 0) rfl).trans (List.Perm.cons _ (List.Perm.refl _))))) ?_
 refine tm rfl (TO.nil (Fin.go (Tr.seq (Tr.regT (tm rfl (TO.rd 1 rfl rfl rfl (by decide) (rd_load1 rfl one3 (vl rfl) rfl) (tp rfl (ki rfl rfl rfl rfl) (tp rfl (okp_nilCheck rfl (vl rfl)) (TO.ef0 2 rfl rfl (ef_store rfl rfl (vl rfl) (VL.le (vl rfl) (one_cellsP _)) sz4 rfl (by exact Nat.le_of_ble_eq_true rfl) rfl) (TO.nil (Fin.go (Tr.drop 1 (wk1 6 rfl (Tr.seq ?_))))))))))))))
 refine Tr.reg0 (cm rfl (cm rfl (Ch.nil (Fin.go (Tr.ret (Fin.retD rfl (RVal.tmp rfl (Pr.le_refl _)) ?_ (List.Perm.refl _)))))))
 · exact Pr.le_refl _
set_option maxRecDepth 20000 in
theorem w_fsetOrderY {e : Ept} {c b : Chg} {wb ob : Nat} {p3 p5 p6 p7 : Pr} {k : Int}  (hr : 0 ≤ c.number ∧ c.number ≤ 1) (hk : bitI e.own = k) (h : k ≠ c.number) : FunD Tryz.prog 152 [ptr wb 0] [resW wb ob c b, resO ob e p3 p5 p6 p7] (int 0) [resW wb ob c ⟨b.endpoint, c.kind, k, b.at_, b.idn⟩, resO ob { e with own := (c.number == 1) } p3 p5 p6 p7] := by
 refine FunD.of Tryz.func152 rfl rfl (by exact Nat.le_of_ble_eq_true rfl) fun M0 w0 S rs M1 w1 => (Tr.seq (Tr.reg0 (cm rfl (Ch.nil (Fin.go (Tr.seq (Tr.regT (tm rfl (tm rfl (tp rfl (okp_nilCheck rfl (vl rfl)) (tp rfl (okp_fieldAddr rfl fo147_0 (vl rfl)) (TO.rd 0 rfl rfl rfl (by decide) (rd_load1 rfl one145 (vl rfl) rfl) (tp rfl (okp_nilCheck rfl (vl rfl)) ?_)))))))))))))
 refine tp rfl (okp_fieldAddr rfl fo35_4 (vl rfl)) ?_
 refine TO.callD _ rfl rfl (by decide) rfl (w_flagOrderY (e := e) (c := c) (b := b) hr hk h) ⟨ke rfl, ke rfl, trivial⟩ ((perm_at (j := 0) rfl).trans (List.Perm.cons _ ((perm_at (j := 0) rfl).trans (List.Perm.cons _ (List.Perm.refl _))))) ?_
 refine tm rfl (TO.nil (Fin.go (Tr.ret (Fin.retD rfl (RVal.tmp rfl (Pr.le_refl _)) ?_ (List.Perm.refl _)))))
 · exact Pr.le_refl _
end Go.Proofs.YtflodcidhlmaaaaGreat
namespace Go.Proofs.YtflodcidhlmaaaaGreat
open Go Go.RowKit Cp
set_option maxRecDepth 20000 in
set_option maxHeartbeats 1000000 in
theorem w_CopyEa {e : Ept} (hsm : e.small) : FunV Tryz.prog 96 [agg (rowEp e)] (fun x => agg (rowO e (ints e.suites) (idns e.ids) (is x) (ints e.hashes))) (fun x => [oweRes 3 1 (e.anchors.map fun n => [int n]) x]) := by
 refine FunV.of Tryz.func96 rfl rfl (by exact Nat.le_of_ble_eq_true rfl) fun M0 w0 S rs M1 w1 => ?_
 have hs1 := hsm.suites
 have hs2 := hsm.anchors
 have hs3 := hsm.hashes
 have hs4 := hsm.idl
 refine Tr.seq (Tr.regT ?_)
 refine TO.boxm rfl rfl (by decide) rfl (VL.le (vl rfl) (agg_cellsP _)) (fun b1 => ?_)
 refine TO.alloc rfl rfl (by decide) rfl z35 zo35 (fun b2 => ?_)
 refine TO.nil (Fin.go (Tr.seq (Tr.pad (Tr.pad (Tr.regX mixed [none, some (0, 3, false, 0), none, none, some (0, 3, false, 0), some (0, 0, true, 10), none, some (0, 3, false, 0), none, none, some (0, 3, false, 0), some (0, 1, true, 16), none, some (0, 3, true, 0), none, some (0, 3, true, 10), none, some (10, 3, true, 10), none, some (10, 3, true, .two 10 16)] (by kernel_rfl) (xo rfl (fun _ => okp_fieldAddr rfl fo35_3 (vl rfl)) (xrd 3 rfl rfl (rd_load1 rfl one22 (vl rfl) rfl) ?_)))))))
 refine xo rfl (fun _ => ok_call rfl (w_CloneFi (l := e.suites) hs1) ⟨ke rfl, trivial⟩) ?_
 refine xo rfl (fun _ => okp_fieldAddr rfl fo35_6 (vl rfl)) (xrd 3 rfl rfl (rd_load1 rfl one22 (vl rfl) rfl) ?_)
 refine Cx.ef 0 rfl rfl (by decide) (ef_call rfl rfl (by decide) rfl (w_CloneWi (l := e.anchors) hs2) ⟨ke rfl, trivial⟩) ?_
 refine xo rfl (fun _ => okp_fieldAddr rfl fo35_7 (vl rfl)) (xrd 3 rfl rfl (rd_load1 rfl one22 (vl rfl) rfl) ?_)
 refine xo rfl (fun _ => ok_call rfl (w_CloneFi (l := e.hashes) hs3) ⟨ke rfl, trivial⟩) ?_
 refine xo rfl (fun _ => okp_fieldAddr rfl fo35_5 (vl rfl)) (xrd 3 rfl rfl (rd_load1 rfl one33 (vl rfl) rfl) ?_)
 refine Cx.ef 1 rfl rfl (by decide) (ef_call rfl rfl (by decide) rfl (w_CloneWn (l := e.ids) hs4) ⟨ke rfl, trivial⟩) ?_
 refine xo rfl (fun _ => okp_fieldAddr rfl fo35_3 (vl rfl)) (Cx.ef0 3 rfl rfl (ef_store rfl rfl (vl rfl) (VL.le (vl rfl) (one_cellsP _)) sz22 rfl (by exact Nat.le_of_ble_eq_true rfl) rfl) (xo rfl (fun _ => okp_fieldAddr rfl fo35_6 (vl rfl)) (Cx.ef0 3 rfl rfl (ef_storeS rfl rfl rfl (vl rfl) rfl sz22 (by exact Nat.le_of_ble_eq_true rfl)) (xo rfl (fun _ => okp_fieldAddr rfl fo35_7 (vl rfl)) (Cx.ef0 3 rfl rfl (ef_storeW rfl rfl rfl (vl rfl) (VL.le (vl rfl) (one_cellsP _)) sz22 rfl (fun _ => by exact Nat.le_of_ble_eq_true rfl)) (xo rfl (fun _ => okp_fieldAddr rfl fo35_5 (vl rfl)) (Cx.ef0 3 rfl rfl (ef_storeT rfl rfl rfl (vl rfl) rfl sz33 (fun _ => by exact Nat.le_of_ble_eq_true rfl)) ?_)))))))
 refine Cx.nil ⟨rfl, ?_⟩
 refine FinX.open3 0 1 3 10 16 rfl rfl rfl (by decide) (by decide) (by decide) (by decide) rfl rfl (fun v1 v2 => ?_)
 refine FinX.done (AllC.cons (AllC.cons (AllC.cons (AllC.cons (AllC.cons (AllC.map _)))))) (Fin.go (wk2 1 2 rfl (Tr.seq (Tr.seq (Tr.reg0 (co rfl (okp_fieldAddr rfl fo35_5 (vl rfl)) (co rfl (ok_rd 3 rfl (rd_load1 rfl one33 (vl rfl) rfl)) (co rfl (ok_rd 1 rfl (rd_lenW rfl Tryz.underlying33 ⟨_, rfl, andIs_is _ _⟩)) (cm rfl (Ch.nil (Fin.go (Tr.block (Tr.re 23 rfl (int_eq (by rw [List.length_map])) (Tr.loopw [(1, _), (2, _), (22, _), (23, _)] (kk4 rfl) (fun k : Nat => [(24, int ((k : Nat) : Int))]) (fun k : Nat => k ≤ (e.ids).length) (fun k : Nat => (e.ids).length - k) 0 (Nat.zero_le _) ⟨ke rfl, trivial⟩ ?_))))))))))))))
 rintro k hle_k
 refine Tr.seq (Tr.reg0 (co rfl (ki rfl rfl rfl rfl) (Ch.nil (Fin.go (Tr.seq ?_)))))
 refine Tr.cn rfl ?_ ?_ <;> intro h1 q1
 have hk_k : k < (e.ids).length := lt_of_dec h1
 obtain ⟨x, hx_k⟩ := at_ hk_k
 have hxs := hsm.ids x (List.mem_of_getElem? hx_k)
 refine Tr.skip (Fin.go (Tr.seq (Tr.block (Tr.seq (Tr.regT (tm rfl ?_))))))
 refine tp rfl (ok_rd 1 rfl (rd_elp rfl Tryz.underlying33 sz47 ⟨_, rfl, andIs_is _ _⟩ (vl rfl) (by omega) (by rw [List.length_map]; omega))) ?_
 refine tp rfl (ok_rd 1 rfl (rd_elload rfl agg47 sz47 (vl rfl) (map_rows fun _ => rfl) (by rw [Int.toNat_natCast, List.getElem?_map, hx_k]; rfl))) ?_
 refine TO.alloc rfl rfl (by decide) rfl z47 zo47 (fun b3 => ?_)
 refine tm rfl (TO.store_all 0 rfl rfl rfl (vl rfl) (VL.le (vl rfl) (agg_cellsP _)) rfl sz47 rfl rfl (TO.freeze 0 4 rfl rfl (TO.nil (Fin.go (Tr.regX mixed [none, some (0, 3, false, 0), none, none, none, some (0, 1, false, 0), some (0, 1, true, 0)] (by kernel_rfl) (xo rfl (fun _ => okp_fieldAddr rfl fo35_5 (vl rfl)) (xrd 3 rfl rfl (rd_load1 rfl one33 (vl rfl) rfl) (xm rfl (xo rfl (fun _ => ok_loadA rfl agg47 sz47 (vl rfl) rfl rfl) (xo rfl (fun _ => ok_call rfl (w_copyId hxs) ⟨ke rfl, trivial⟩) ?_))))))))))
 refine xrd 1 rfl rfl (rd_elp rfl Tryz.underlying33 sz47 ⟨_, rfl, andIs_is _ _⟩ (vl rfl) (by omega) (by rw [List.length_map]; omega)) ?_
 refine Cx.ef0 1 rfl rfl (ef_elstore rfl rfl (vl rfl) (VL.le (vl rfl) (agg_cellsP _)) sz47 rfl (map_rows fun _ => rfl) (by rw [Int.toNat_natCast, List.getElem?_map, hx_k]; rfl) (by decide) (row_setI (f := rowId) (q := 0) (m := 4) hx_k rfl)) ?_
 refine Cx.nil ⟨rfl, ?_⟩
 refine FinX.done (AllC.cons (AllC.cons (AllC.cons (AllC.cons (AllC.cons (AllC.map _)))))) (Fin.block (Fin.go (wk5 1 2 22 23 24 rfl (Tr.reg0 (cad rfl rfl rfl rfl (by omega) (cm rfl (Ch.nil (Fin.fam_same (k + 1) ⟨hk_k, by omega⟩ ⟨⟨_, rfl, int_succ k⟩, ke rfl, ke rfl, ke rfl, ke rfl, trivial⟩))))))))
 have he_k : k = (e.ids).length := by have := ge_of_dec h1; omega
 subst he_k
 refine Tr.exit (Fin.then_exit (Fin.then_exit (Fin.block_here (Fin.go (Tr.seq (Tr.frzWC 3 1 5 rfl rfl (by decide) rfl (andIs_is _ _) (map_rows fun _ => rfl) (Tr.regT (TO.rd 3 rfl rfl rfl (by decide) (rd_loadA rfl agg35 sz35 (vl rfl) rfl rfl) (TO.store_all 2 rfl rfl rfl (vl rfl) (VL.le (vl rfl) (agg_cellsP _)) rfl sz35 rfl rfl (TO.nil (Fin.go (Tr.drop 1 (Tr.drop 2 (Tr.ret ?_))))))))))))))
 refine Fin.swap01 (Fin.retV v1 [_] rfl (RVal.cell 0 rfl rfl agg35 sz35 rfl (Pr.le_refl _)) ?_ (List.Perm.refl _))
 · exact agg_le ⟨Pr.le_refl _, Pr.le_refl _, Pr.le_refl _, Pr.le_refl _, Pr.le_refl _, Pr.le_refl _, andIs_is _ _, Pr.le_refl _, Pr.le_refl _, trivial⟩
set_option maxRecDepth 20000 in
set_option maxHeartbeats 1000000 in
theorem w_CopyEh {e : Ept} (hsm : e.small) : FunV Tryz.prog 96 [agg (rowEp e)] (fun x => agg (rowO e (ints e.suites) (idns e.ids) (ints e.anchors) (is x))) (fun x => [oweRes 3 1 (e.hashes.map fun n => [int n]) x]) := by
 refine FunV.of Tryz.func96 rfl rfl (by exact Nat.le_of_ble_eq_true rfl) fun M0 w0 S rs M1 w1 => ?_
 have hs1 := hsm.suites
 have hs2 := hsm.anchors
 have hs3 := hsm.hashes
 have hs4 := hsm.idl
 refine Tr.seq (Tr.regT ?_)
 refine TO.boxm rfl rfl (by decide) rfl (VL.le (vl rfl) (agg_cellsP _)) (fun b1 => ?_)
 refine TO.alloc rfl rfl (by decide) rfl z35 zo35 (fun b2 => ?_)
 refine TO.nil (Fin.go (Tr.seq (Tr.pad (Tr.pad (Tr.regX mixed [none, some (0, 3, false, 0), none, none, some (0, 3, false, 0), none, none, some (0, 3, false, 0), some (0, 0, true, 13), none, some (0, 3, false, 0), some (0, 1, true, 16), none, some (0, 3, true, 0), none, some (0, 3, true, 0), none, some (0, 3, true, 13), none, some (13, 3, true, .two 13 16)] (by kernel_rfl) (xo rfl (fun _ => okp_fieldAddr rfl fo35_3 (vl rfl)) (xrd 3 rfl rfl (rd_load1 rfl one22 (vl rfl) rfl) ?_)))))))
 refine xo rfl (fun _ => ok_call rfl (w_CloneFi (l := e.suites) hs1) ⟨ke rfl, trivial⟩) ?_
 refine xo rfl (fun _ => okp_fieldAddr rfl fo35_6 (vl rfl)) (xrd 3 rfl rfl (rd_load1 rfl one22 (vl rfl) rfl) ?_)
 refine xo rfl (fun _ => ok_call rfl (w_CloneFi (l := e.anchors) hs2) ⟨ke rfl, trivial⟩) ?_
 refine xo rfl (fun _ => okp_fieldAddr rfl fo35_7 (vl rfl)) (xrd 3 rfl rfl (rd_load1 rfl one22 (vl rfl) rfl) ?_)
 refine Cx.ef 0 rfl rfl (by decide) (ef_call rfl rfl (by decide) rfl (w_CloneWi (l := e.hashes) hs3) ⟨ke rfl, trivial⟩) ?_
 refine xo rfl (fun _ => okp_fieldAddr rfl fo35_5 (vl rfl)) (xrd 3 rfl rfl (rd_load1 rfl one33 (vl rfl) rfl) ?_)
 refine Cx.ef 1 rfl rfl (by decide) (ef_call rfl rfl (by decide) rfl (w_CloneWn (l := e.ids) hs4) ⟨ke rfl, trivial⟩) ?_
 refine xo rfl (fun _ => okp_fieldAddr rfl fo35_3 (vl rfl)) (Cx.ef0 3 rfl rfl (ef_store rfl rfl (vl rfl) (VL.le (vl rfl) (one_cellsP _)) sz22 rfl (by exact Nat.le_of_ble_eq_true rfl) rfl) (xo rfl (fun _ => okp_fieldAddr rfl fo35_6 (vl rfl)) (Cx.ef0 3 rfl rfl (ef_store rfl rfl (vl rfl) (VL.le (vl rfl) (one_cellsP _)) sz22 rfl (by exact Nat.le_of_ble_eq_true rfl) rfl) (xo rfl (fun _ => okp_fieldAddr rfl fo35_7 (vl rfl)) (Cx.ef0 3 rfl rfl (ef_storeS rfl rfl rfl (vl rfl) rfl sz22 (by exact Nat.le_of_ble_eq_true rfl)) (xo rfl (fun _ => okp_fieldAddr rfl fo35_5 (vl rfl)) (Cx.ef0 3 rfl rfl (ef_storeT rfl rfl rfl (vl rfl) rfl sz33 (fun _ => by exact Nat.le_of_ble_eq_true rfl)) ?_)))))))
 refine Cx.nil ⟨rfl, ?_⟩
 refine FinX.open3 0 1 3 13 16 rfl rfl rfl (by decide) (by decide) (by decide) (by decide) rfl rfl (fun v1 v2 => ?_)
 refine FinX.done (AllC.cons (AllC.cons (AllC.cons (AllC.cons (AllC.cons (AllC.map _)))))) (Fin.go (wk2 1 2 rfl (Tr.seq (Tr.seq (Tr.reg0 (co rfl (okp_fieldAddr rfl fo35_5 (vl rfl)) (co rfl (ok_rd 3 rfl (rd_load1 rfl one33 (vl rfl) rfl)) (co rfl (ok_rd 1 rfl (rd_lenW rfl Tryz.underlying33 ⟨_, rfl, andIs_is _ _⟩)) (cm rfl (Ch.nil (Fin.go (Tr.block (Tr.re 23 rfl (int_eq (by rw [List.length_map])) (Tr.loopw [(1, _), (2, _), (22, _), (23, _)] (kk4 rfl) (fun k : Nat => [(24, int ((k : Nat) : Int))]) (fun k : Nat => k ≤ (e.ids).length) (fun k : Nat => (e.ids).length - k) 0 (Nat.zero_le _) ⟨ke rfl, trivial⟩ ?_))))))))))))))
 rintro k hle_k
 refine Tr.seq (Tr.reg0 (co rfl (ki rfl rfl rfl rfl) (Ch.nil (Fin.go (Tr.seq ?_)))))
 refine Tr.cn rfl ?_ ?_ <;> intro h1 q1
 have hk_k : k < (e.ids).length := lt_of_dec h1
 obtain ⟨x, hx_k⟩ := at_ hk_k
 have hxs := hsm.ids x (List.mem_of_getElem? hx_k)
 refine Tr.skip (Fin.go (Tr.seq (Tr.block (Tr.seq (Tr.regT (tm rfl ?_))))))
 refine tp rfl (ok_rd 1 rfl (rd_elp rfl Tryz.underlying33 sz47 ⟨_, rfl, andIs_is _ _⟩ (vl rfl) (by omega) (by rw [List.length_map]; omega))) ?_
 refine tp rfl (ok_rd 1 rfl (rd_elload rfl agg47 sz47 (vl rfl) (map_rows fun _ => rfl) (by rw [Int.toNat_natCast, List.getElem?_map, hx_k]; rfl))) ?_
 refine TO.alloc rfl rfl (by decide) rfl z47 zo47 (fun b3 => ?_)
 refine tm rfl (TO.store_all 0 rfl rfl rfl (vl rfl) (VL.le (vl rfl) (agg_cellsP _)) rfl sz47 rfl rfl (TO.freeze 0 4 rfl rfl (TO.nil (Fin.go (Tr.regX mixed [none, some (0, 3, false, 0), none, none, none, some (0, 1, false, 0), some (0, 1, true, 0)] (by kernel_rfl) (xo rfl (fun _ => okp_fieldAddr rfl fo35_5 (vl rfl)) (xrd 3 rfl rfl (rd_load1 rfl one33 (vl rfl) rfl) (xm rfl (xo rfl (fun _ => ok_loadA rfl agg47 sz47 (vl rfl) rfl rfl) (xo rfl (fun _ => ok_call rfl (w_copyId hxs) ⟨ke rfl, trivial⟩) ?_))))))))))
 refine xrd 1 rfl rfl (rd_elp rfl Tryz.underlying33 sz47 ⟨_, rfl, andIs_is _ _⟩ (vl rfl) (by omega) (by rw [List.length_map]; omega)) ?_
 refine Cx.ef0 1 rfl rfl (ef_elstore rfl rfl (vl rfl) (VL.le (vl rfl) (agg_cellsP _)) sz47 rfl (map_rows fun _ => rfl) (by rw [Int.toNat_natCast, List.getElem?_map, hx_k]; rfl) (by decide) (row_setI (f := rowId) (q := 0) (m := 4) hx_k rfl)) ?_
 refine Cx.nil ⟨rfl, ?_⟩
 refine FinX.done (AllC.cons (AllC.cons (AllC.cons (AllC.cons (AllC.cons (AllC.map _)))))) (Fin.block (Fin.go (wk5 1 2 22 23 24 rfl (Tr.reg0 (cad rfl rfl rfl rfl (by omega) (cm rfl (Ch.nil (Fin.fam_same (k + 1) ⟨hk_k, by omega⟩ ⟨⟨_, rfl, int_succ k⟩, ke rfl, ke rfl, ke rfl, ke rfl, trivial⟩))))))))
 have he_k : k = (e.ids).length := by have := ge_of_dec h1; omega
 subst he_k
 refine Tr.exit (Fin.then_exit (Fin.then_exit (Fin.block_here (Fin.go (Tr.seq (Tr.frzWC 3 1 5 rfl rfl (by decide) rfl (andIs_is _ _) (map_rows fun _ => rfl) (Tr.regT (TO.rd 3 rfl rfl rfl (by decide) (rd_loadA rfl agg35 sz35 (vl rfl) rfl rfl) (TO.store_all 2 rfl rfl rfl (vl rfl) (VL.le (vl rfl) (agg_cellsP _)) rfl sz35 rfl rfl (TO.nil (Fin.go (Tr.drop 1 (Tr.drop 2 (Tr.ret ?_))))))))))))))
 refine Fin.swap01 (Fin.retV v1 [_] rfl (RVal.cell 0 rfl rfl agg35 sz35 rfl (Pr.le_refl _)) ?_ (List.Perm.refl _))
 · exact agg_le ⟨Pr.le_refl _, Pr.le_refl _, Pr.le_refl _, Pr.le_refl _, Pr.le_refl _, Pr.le_refl _, Pr.le_refl _, andIs_is _ _, Pr.le_refl _, trivial⟩
set_option maxRecDepth 20000 in
set_option maxHeartbeats 1000000 in
theorem w_CopyEz {e : Ept} (hsm : e.small) : Fun Tryz.prog 96 [agg (rowEp e)] (agg (rowEp e)) := by
 refine Fun.of Tryz.func96 rfl rfl (by exact Nat.le_of_ble_eq_true rfl) fun M0 w0 => ?_
 have hs1 := hsm.suites
 have hs2 := hsm.anchors
 have hs3 := hsm.hashes
 have hs4 := hsm.idl
 refine Tr.seq (Tr.regT ?_)
 refine TO.boxm rfl rfl (by decide) rfl (VL.le (vl rfl) (agg_cellsP _)) (fun b1 => ?_)
 refine TO.alloc rfl rfl (by decide) rfl z35 zo35 (fun b2 => ?_)
 refine TO.nil (Fin.go (Tr.seq (Tr.pad (Tr.regX mixed [none, some (0, 2, false, 0), none, none, some (0, 2, false, 0), none, none, some (0, 2, false, 0), none, none, some (0, 2, false, 0), some (0, 0, true, 16), none, some (0, 2, true, 0), none, some (0, 2, true, 0), none, some (0, 2, true, 0), none, some (0, 2, true, 16)] (by kernel_rfl) (xo rfl (fun _ => okp_fieldAddr rfl fo35_3 (vl rfl)) (xrd 2 rfl rfl (rd_load1 rfl one22 (vl rfl) rfl) ?_))))))
 refine xo rfl (fun _ => ok_call rfl (w_CloneFi (l := e.suites) hs1) ⟨ke rfl, trivial⟩) ?_
 refine xo rfl (fun _ => okp_fieldAddr rfl fo35_6 (vl rfl)) (xrd 2 rfl rfl (rd_load1 rfl one22 (vl rfl) rfl) ?_)
 refine xo rfl (fun _ => ok_call rfl (w_CloneFi (l := e.anchors) hs2) ⟨ke rfl, trivial⟩) ?_
 refine xo rfl (fun _ => okp_fieldAddr rfl fo35_7 (vl rfl)) (xrd 2 rfl rfl (rd_load1 rfl one22 (vl rfl) rfl) ?_)
 refine xo rfl (fun _ => ok_call rfl (w_CloneFi (l := e.hashes) hs3) ⟨ke rfl, trivial⟩) ?_
 refine xo rfl (fun _ => okp_fieldAddr rfl fo35_5 (vl rfl)) (xrd 2 rfl rfl (rd_load1 rfl one33 (vl rfl) rfl) ?_)
 refine Cx.ef 0 rfl rfl (by decide) (ef_call rfl rfl (by decide) rfl (w_CloneWn (l := e.ids) hs4) ⟨ke rfl, trivial⟩) ?_
 refine xo rfl (fun _ => okp_fieldAddr rfl fo35_3 (vl rfl)) (Cx.ef0 2 rfl rfl (ef_store rfl rfl (vl rfl) (VL.le (vl rfl) (one_cellsP _)) sz22 rfl (by exact Nat.le_of_ble_eq_true rfl) rfl) (xo rfl (fun _ => okp_fieldAddr rfl fo35_6 (vl rfl)) (Cx.ef0 2 rfl rfl (ef_store rfl rfl (vl rfl) (VL.le (vl rfl) (one_cellsP _)) sz22 rfl (by exact Nat.le_of_ble_eq_true rfl) rfl) (xo rfl (fun _ => okp_fieldAddr rfl fo35_7 (vl rfl)) (Cx.ef0 2 rfl rfl (ef_store rfl rfl (vl rfl) (VL.le (vl rfl) (one_cellsP _)) sz22 rfl (by exact Nat.le_of_ble_eq_true rfl) rfl) (xo rfl (fun _ => okp_fieldAddr rfl fo35_5 (vl rfl)) (Cx.ef0 2 rfl rfl (ef_storeS rfl rfl rfl (vl rfl) rfl sz33 (by exact Nat.le_of_ble_eq_true rfl)) ?_)))))))
 refine Cx.nil ⟨rfl, ?_⟩
 refine FinX.open2 0 2 16 rfl rfl (by decide) rfl (fun v1 => ?_)
 refine FinX.done (AllC.cons (AllC.cons (AllC.cons (AllC.map _)))) (Fin.go (wk2 1 2 rfl (Tr.seq (Tr.seq (Tr.reg0 (co rfl (okp_fieldAddr rfl fo35_5 (vl rfl)) (co rfl (ok_rd 2 rfl (rd_load1 rfl one33 (vl rfl) rfl)) (co rfl (ok_rd 0 rfl (rd_lenW rfl Tryz.underlying33 ⟨_, rfl, andIs_is _ _⟩)) (cm rfl (Ch.nil (Fin.go (Tr.block (Tr.re 23 rfl (int_eq (by rw [List.length_map])) (Tr.loopw [(1, _), (2, _), (22, _), (23, _)] (kk4 rfl) (fun k : Nat => [(24, int ((k : Nat) : Int))]) (fun k : Nat => k ≤ (e.ids).length) (fun k : Nat => (e.ids).length - k) 0 (Nat.zero_le _) ⟨ke rfl, trivial⟩ ?_))))))))))))))
 rintro k hle_k
 refine Tr.seq (Tr.reg0 (co rfl (ki rfl rfl rfl rfl) (Ch.nil (Fin.go (Tr.seq ?_)))))
 refine Tr.cn rfl ?_ ?_ <;> intro h1 q1
 have hk_k : k < (e.ids).length := lt_of_dec h1
 obtain ⟨x, hx_k⟩ := at_ hk_k
 have hxs := hsm.ids x (List.mem_of_getElem? hx_k)
 refine Tr.skip (Fin.go (Tr.seq (Tr.block (Tr.seq (Tr.regT (tm rfl ?_))))))
 refine tp rfl (ok_rd 0 rfl (rd_elp rfl Tryz.underlying33 sz47 ⟨_, rfl, andIs_is _ _⟩ (vl rfl) (by omega) (by rw [List.length_map]; omega))) ?_
 refine tp rfl (ok_rd 0 rfl (rd_elload rfl agg47 sz47 (vl rfl) (map_rows fun _ => rfl) (by rw [Int.toNat_natCast, List.getElem?_map, hx_k]; rfl))) ?_
 refine TO.alloc rfl rfl (by decide) rfl z47 zo47 (fun b3 => ?_)
 refine tm rfl (TO.store_all 0 rfl rfl rfl (vl rfl) (VL.le (vl rfl) (agg_cellsP _)) rfl sz47 rfl rfl (TO.freeze 0 4 rfl rfl (TO.nil (Fin.go (Tr.regX mixed [none, some (0, 2, false, 0), none, none, none, some (0, 0, false, 0), some (0, 0, true, 0)] (by kernel_rfl) (xo rfl (fun _ => okp_fieldAddr rfl fo35_5 (vl rfl)) (xrd 2 rfl rfl (rd_load1 rfl one33 (vl rfl) rfl) (xm rfl (xo rfl (fun _ => ok_loadA rfl agg47 sz47 (vl rfl) rfl rfl) (xo rfl (fun _ => ok_call rfl (w_copyId hxs) ⟨ke rfl, trivial⟩) ?_))))))))))
 refine xrd 0 rfl rfl (rd_elp rfl Tryz.underlying33 sz47 ⟨_, rfl, andIs_is _ _⟩ (vl rfl) (by omega) (by rw [List.length_map]; omega)) ?_
 refine Cx.ef0 0 rfl rfl (ef_elstore rfl rfl (vl rfl) (VL.le (vl rfl) (agg_cellsP _)) sz47 rfl (map_rows fun _ => rfl) (by rw [Int.toNat_natCast, List.getElem?_map, hx_k]; rfl) (by decide) (row_setI (f := rowId) (q := 0) (m := 4) hx_k rfl)) ?_
 refine Cx.nil ⟨rfl, ?_⟩
 refine FinX.done (AllC.cons (AllC.cons (AllC.cons (AllC.map _)))) (Fin.block (Fin.go (wk5 1 2 22 23 24 rfl (Tr.reg0 (cad rfl rfl rfl rfl (by omega) (cm rfl (Ch.nil (Fin.fam_same (k + 1) ⟨hk_k, by omega⟩ ⟨⟨_, rfl, int_succ k⟩, ke rfl, ke rfl, ke rfl, ke rfl, trivial⟩))))))))
 have he_k : k = (e.ids).length := by have := ge_of_dec h1; omega
 subst he_k
 refine Tr.exit (Fin.then_exit (Fin.then_exit (Fin.block_here (Fin.go (Tr.seq (Tr.frzWC 2 0 5 rfl rfl (by decide) rfl (andIs_is _ _) (map_rows fun _ => rfl) (Tr.regT (TO.rd 2 rfl rfl rfl (by decide) (rd_loadA rfl agg35 sz35 (vl rfl) rfl rfl) (TO.store_all 1 rfl rfl rfl (vl rfl) (VL.le (vl rfl) (agg_cellsP _)) rfl sz35 rfl rfl (TO.nil (Fin.go (Tr.drop 0 (Tr.drop 1 (Tr.ret ?_))))))))))))))
 refine Fin.retX1 rfl (RVal.cell 0 rfl rfl agg35 sz35 rfl (Pr.le_refl _)) ?_
 · exact Pr.le_refl _
end Go.Proofs.YtflodcidhlmaaaaGreat
