/-
  What the functions named below compute, proved from their text; printed by a program of our own.
-/
import Derived.Test.YthmnoekgicggnaaGreatTypes
import Derived.Test.YthmnoekgicggnaaGreatSlices
import Derived.Test.YthmnoekgicggnaaGreatEqs
import Derived.Test.YthmnoekgicggnaaGreatFindA
import Derived.Test.YthmnoekgicggnaaGreatAssetA
import Derived.Test.YthmnoekgicggnaaGreatAssetC
import Derived.Test.YthmnoekgicggnaaGreatAssetD
import Derived.Test.YthmnoekgicggnaaGreatCoreW
namespace Go.Proofs.YthmnoekgicggnaaGreat
open Go Go.RowKit Cp

theorem idx_at {β : Type} {p : β → Bool} {l : List β} (h : ¬ idx p l = -1) : 0 ≤ idx p l ∧ (idx p l).toNat < l.length ∧ DelI p l l (idx p l).toNat ((idx p l).toNat + 1) := by
  unfold idx at h ⊢
  cases hf : l.findIdx? p with
  | none => rw [hf] at h; exact absurd rfl h
  | some i =>
    rw [List.findIdx?_eq_some_iff_getElem] at hf
    obtain ⟨h1, h2, h3⟩ := hf
    refine ⟨by simp, by simpa using h1, rfl, by simp, by simp only [Int.toNat_natCast]; omega, ?_, rfl⟩
    simp only [Int.toNat_natCast]
    rw [List.take_add_one, List.getElem?_eq_getElem h1, List.filter_append]
    have : (l.take i).filter (fun x => !p x) = l.take i := by
      rw [List.filter_eq_self]; intro x hx
      obtain ⟨j, hj, rfl⟩ := List.mem_iff_getElem.1 hx
      rw [List.length_take] at hj
      have := h3 j (by omega)
      simpa using this
    rw [this]; simp [h2]
theorem idx_no {β : Type} {p : β → Bool} {l : List β} (h : idx p l = -1) : l.filter (fun x => !p x) = l := by
  unfold idx at h
  cases hf : l.findIdx? p with
  | none => rw [List.findIdx?_eq_none_iff] at hf; rw [List.filter_eq_self]; intro x hx; simpa using hf x hx
  | some i => rw [hf] at h; exact absurd h (by simp)
theorem len_pos {α : Type} {l : List α} (h : l ≠ []) : 0 < l.length := List.length_pos_iff.2 h
theorem spare_len {cap n m : Nat} (h1 : n ≤ cap) (h2 : m ≤ n) : (n - m) * 8 + (cap - n) * 8 = (cap - m) * 8 := by omega
abbrev zeroFct : Fct := ⟨0, [], 0, 0, 0, 0, [], 0⟩

set_option maxRecDepth 20000 in
theorem w_Clone0   : Fun Tryz.prog 71 [fcts []] (fcts []) := by
  refine Fun.of Tryz.func71 rfl rfl (by exact Nat.le_of_ble_eq_true rfl) fun M0 w0 => ?_
  refine Tr.seq ?_
  refine Tr.reg0 ?_
  refine Ch.op rfl rfl (by decide) (ok_assign rfl (vl rfl)) ?_
  refine Ch.nil ?_
  refine Fin.go ?_
  refine Tr.seq ?_
  refine Tr.seq ?_
  refine Tr.reg0 ?_
  refine Ch.op rfl rfl (by decide) (ok_move rfl (vl rfl)) ?_
  refine Ch.op rfl rfl (by decide) (ok_eqnil rfl Tryz.underlying29 (vl rfl)) ?_
  refine Ch.nil ?_
  refine Fin.go ?_
  refine Tr.ex 4 rfl (fun z1 => Tr.fact 4 rfl fun hz1 => ?_)
  refine Tr.cond rfl (fun h1 => ?_) (fun h1 => ?_)
  ·
    have q1 := Nrm.nrm h1
    refine Tr.seq ?_
    refine Tr.reg0 ?_
    refine Ch.op rfl rfl (by decide) (ok_assign rfl (vl rfl)) ?_
    refine Ch.nil ?_
    refine Fin.go ?_
    refine Tr.ret ?_
    refine Fin.then_ret ?_
    refine Fin.ret1 rfl (OutW.bse _ _) rfl ?_
    · exact nil_slice 8
  ·
    have q1 := Nrm.nrm h1
    refine Tr.skip ?_
    refine Fin.go ?_
    refine Tr.seq ?_
    refine Tr.regT ?_
    refine TO.op rfl rfl (by decide) (ok_buildSlice (xs := []) (rows := []) rfl rfl Tryz.underlying29 sz40 z40 rfl (by decide) trivial (by decide)) ?_
    refine TO.op rfl rfl (by decide) (ok_move rfl (vl rfl)) ?_
    refine TO.pad ?_
    refine TO.efs 0 rfl rfl (by decide) (ef_append rfl rfl (by decide) rfl Tryz.underlying29 sz40 by40 z40 rfl (by decide) ⟨_, rfl, full_le _ _⟩ (vl rfl) (by simp only [List.length_map, List.length_append, List.length_cons, List.length_nil]; unfold maxLen; omega) (by simp only [List.length_map, List.length_append, List.length_cons, List.length_nil]; omega) (appR_full (by exact List.Mem.head _) (vl rfl))) (fun v1 => ?_)
    refine TO.op rfl rfl (by decide) (ok_assign rfl (vl rfl)) ?_
    refine TO.nil ?_
    refine Fin.go ?_
    refine Tr.ret ?_
    refine Fin.ret1 rfl (OutW.bse _ _) rfl ?_
    · exact andIs_le _ _
theorem e_Clone0 : Entry Tryz.prog 71 := ⟨_, Tryz.func71, rfl, rfl⟩
set_option maxRecDepth 20000 in
theorem w_Delete0 {p : Fct → Bool}  : Fun Tryz.prog 70 [fcts [], clo Tryz.prog (fun x : Fct => [agg (rowFc x)]) (fun x => bool (p x))] (fcts []) := by
  refine Fun.of Tryz.func70 rfl rfl (by exact Nat.le_of_ble_eq_true rfl) fun M0 w0 => ?_
  refine Tr.seq ?_
  refine Tr.reg0 ?_
  refine Ch.op rfl rfl (by decide) (ok_assign rfl (vl rfl)) ?_
  refine Ch.nil ?_
  refine Fin.go ?_
  refine Tr.seq ?_
  refine Tr.reg0 ?_
  refine Ch.op rfl rfl (by decide) (ok_move rfl (vl rfl)) ?_
  refine Ch.op rfl rfl (by decide) (ok_move rfl (vl rfl)) ?_
  refine Ch.op rfl rfl (by decide) (ok_call rfl (w_IndexFuncF (l := []) (p := p)) ⟨⟨_, rfl, Pr.le_refl _⟩, ⟨_, rfl, Pr.le_refl _⟩, trivial⟩) ?_
  refine Ch.op rfl rfl (by decide) (ok_assign rfl (vl rfl)) ?_
  refine Ch.nil ?_
  refine Fin.go ?_
  refine Tr.seq ?_
  refine Tr.seq ?_
  refine Tr.reg0 ?_
  refine Ch.op rfl rfl (by decide) (ok_move rfl (vl rfl)) ?_
  refine Ch.op rfl rfl (by decide) (ok_int rfl (vl rfl) (vl rfl) rfl) ?_
  refine Ch.nil ?_
  refine Fin.go ?_
  refine Tr.cond rfl (fun h1 => ?_) (fun h1 => ?_)
  ·
    have q1 := Nrm.nrm h1
    refine Tr.seq ?_
    refine Tr.reg0 ?_
    refine Ch.op rfl rfl (by decide) (ok_move rfl (vl rfl)) ?_
    refine Ch.op rfl rfl (by decide) (ok_assign rfl (vl rfl)) ?_
    refine Ch.nil ?_
    refine Fin.go ?_
    refine Tr.ret ?_
    refine Fin.then_ret ?_
    refine Fin.ret1 rfl (OutW.bse _ _) rfl ?_
    · first | exact Pr.le_refl _ | (refine int_eq ?_; simp_all; done) | (refine bool_eq ?_; simp_all; done) | (refine bool_eq ?_; simp_all; omega) | (refine int_eq ?_; omega)
  ·
    have q1 := Nrm.nrm h1
    exfalso; simp [idx] at h1
theorem e_Delete0 : Entry Tryz.prog 70 := ⟨_, Tryz.func70, rfl, rfl⟩
set_option maxRecDepth 20000 in
theorem w_CloneM {l : List Fct} (h0 : l ≠ []) (hl : l.length ≤ 100000) : FunM Tryz.prog 71 [fcts l] (lens (l.map rowFc).length) (noRes) (fun v => mutRes 40 8 (l.map rowFc) v) := by
  refine FunM.of Tryz.func71 rfl rfl (by exact Nat.le_of_ble_eq_true rfl) fun M0 w0 S rs M1 w1 => ?_
  have hpos := len_pos h0
  refine Tr.seq ?_
  refine Tr.reg0 ?_
  refine Ch.op rfl rfl (by decide) (ok_assign rfl (vl rfl)) ?_
  refine Ch.nil ?_
  refine Fin.go ?_
  refine Tr.seq ?_
  refine Tr.seq ?_
  refine Tr.reg0 ?_
  refine Ch.op rfl rfl (by decide) (ok_move rfl (vl rfl)) ?_
  refine Ch.op rfl rfl (by decide) (ok_eqnil rfl Tryz.underlying29 (vl rfl)) ?_
  refine Ch.nil ?_
  refine Fin.go ?_
  refine Tr.ex 4 rfl (fun z1 => Tr.fact 4 rfl fun hz1 => ?_)
  refine Tr.cond rfl (fun h1 => ?_) (fun h1 => ?_)
  ·
    have q1 := Nrm.nrm h1
    exfalso; have := hz1 h1; simp_all
  ·
    have q1 := Nrm.nrm h1
    refine Tr.skip ?_
    refine Fin.go ?_
    refine Tr.seq ?_
    refine Tr.regT ?_
    refine TO.op rfl rfl (by decide) (ok_buildSlice (xs := []) (rows := []) rfl rfl Tryz.underlying29 sz40 z40 rfl (by decide) trivial (by decide)) ?_
    refine TO.op rfl rfl (by decide) (ok_move rfl (vl rfl)) ?_
    refine TO.pad ?_
    refine TO.efs 0 rfl rfl (by decide) (ef_appvoid rfl rfl (by decide) rfl Tryz.underlying29 sz40 by40 z40 rfl (by decide) (by decide) (vl rfl) (vl rfl) (by rw [List.length_map]; exact hpos) (by rw [List.length_map]; unfold maxLen; omega) (by rw [List.length_map]; omega)) (fun v1 => ?_)
    refine TO.op rfl rfl (by decide) (ok_assign rfl (vl rfl)) ?_
    refine TO.nil ?_
    refine Fin.go ?_
    refine Tr.ret ?_
    refine Fin.drop 1 ?_
    refine Fin.retM1 rfl rfl ?_ (by intro _ _ _ h; rw [h.1])
    · exact andIs_le _ _
theorem e_CloneM : Entry Tryz.prog 71 := ⟨_, Tryz.func71, rfl, rfl⟩
set_option maxRecDepth 20000 in
theorem w_DeleteF {l : List Fct} {p : Fct → Bool} {b cap : Nat} {sp : List Value} (hc : (l.map rowFc).length ≤ cap) (hm : cap ≤ maxLen) (hq : sp.length = (cap - (l.map rowFc).length) * 8) : FunM Tryz.prog 70 [is (.slice (some ⟨b, 0, none⟩) (l.map rowFc).length cap), clo Tryz.prog (fun x : Fct => [agg (rowFc x)]) (fun x => bool (p x))] (is (.slice (some ⟨b, 0, none⟩) ((l.filter fun x => !p x).map rowFc).length cap)) (cellsRes true b 40 ((l.map rowFc).flatten ++ sp.map is)) (fun _ => cellsRes true b 40 (((l.filter fun x => !p x).map rowFc).flatten ++ (((List.replicate (l.length - (l.filter fun x => !p x).length) zeroFct).map rowFc).flatten ++ sp.map is))) := by
  refine FunM.of Tryz.func70 rfl rfl (by exact Nat.le_of_ble_eq_true rfl) fun M0 w0 S rs M1 w1 => ?_
  have hlm : (l.map rowFc).length = l.length := List.length_map ..
  have hmx : cap ≤ 9223372036854775807 := by unfold maxLen at hm; omega
  refine Tr.seq ?_
  refine Tr.reg0 ?_
  refine Ch.op rfl rfl (by decide) (ok_assign rfl (vl rfl)) ?_
  refine Ch.nil ?_
  refine Fin.go ?_
  refine Tr.seq ?_
  refine Tr.regT ?_
  refine TO.op rfl rfl (by decide) (ok_move rfl (vl rfl)) ?_
  refine TO.op rfl rfl (by decide) (ok_move rfl (vl rfl)) ?_
  refine TO.efc 0 rfl rfl (by decide) (ef_pure (l.map rowFc) rfl rfl (by decide) rfl (w_IndexFuncF (l := l) (p := p)) (map_rows fun _ => rfl) hc hm (by rw [List.length_map]; exact hq) ⟨.inr ⟨(vl rfl), andIs_le _ _⟩, .inl ⟨_, rfl, Pr.le_refl _⟩, trivial⟩) ?_
  refine TO.op rfl rfl (by decide) (ok_assign rfl (vl rfl)) ?_
  refine TO.nil ?_
  refine Fin.go ?_
  refine Tr.seq ?_
  refine Tr.seq ?_
  refine Tr.reg0 ?_
  refine Ch.op rfl rfl (by decide) (ok_move rfl (vl rfl)) ?_
  refine Ch.op rfl rfl (by decide) (ok_int rfl (vl rfl) (vl rfl) rfl) ?_
  refine Ch.nil ?_
  refine Fin.go ?_
  refine Tr.cond rfl (fun h1 => ?_) (fun h1 => ?_)
  ·
    have q1 := Nrm.nrm h1
    have hno := idx_no (p := p) (l := l) (by simpa using h1)
    refine Tr.seq ?_
    refine Tr.reg0 ?_
    refine Ch.op rfl rfl (by decide) (ok_move rfl (vl rfl)) ?_
    refine Ch.op rfl rfl (by decide) (ok_assign rfl (vl rfl)) ?_
    refine Ch.nil ?_
    refine Fin.go ?_
    refine Tr.ret ?_
    refine Fin.then_ret ?_
    refine Fin.retM1 rfl rfl ?_ (fun _ _ _ _ => by rw [hno, Nat.sub_self]; rfl)
    · rw [hno]; exact Pr.le_refl _
  ·
    have q1 := Nrm.nrm h1
    obtain ⟨hi0, hil, hdi⟩ := idx_at (p := p) (l := l) (by simpa using h1)
    refine Tr.skip ?_
    refine Fin.go ?_
    refine Tr.seq ?_
    refine Tr.seq ?_
    refine Tr.reg0 ?_
    refine Ch.op rfl rfl (by decide) (ok_move rfl (vl rfl)) ?_
    first
      | (refine Ch.op rfl rfl (by decide) (ok_add rfl (vl rfl) (vl rfl) ?hin) ?_; case hin => unfold InI; omega)
      | refine Ch.op rfl rfl (by decide) (ok_int rfl (vl rfl) (vl rfl) rfl) ?_
    refine Ch.op rfl rfl (by decide) (ok_assign rfl (vl rfl)) ?_
    refine Ch.nil ?_
    refine Fin.go ?_
    refine Tr.block ?_
    refine Tr.loopD3V0 [(0, _), (1, _)] ⟨⟨_, rfl, Pr.le_refl _⟩, ⟨_, rfl, Pr.le_refl _⟩, trivial⟩ (fun (st : List Fct) (i : Nat) (j : Nat) => [(5, int ((i : Nat) : Int)), (6, int ((j : Nat) : Int))]) (fun (st : List Fct) (i : Nat) (j : Nat) => Hp M0 w0 S (cellsRes true b 40 ((st.map rowFc).flatten ++ sp.map is) :: extRes M1 w1 :: rs)) (fun (st : List Fct) (i : Nat) (j : Nat) => DelI p l st i j) (fun (st : List Fct) (i : Nat) (j : Nat) => l.length - j) (l) ((idx p l).toNat) ((idx p l).toNat + 1)  (hdi) ⟨⟨_, rfl, int_eq (by omega)⟩, ⟨_, rfl, int_eq (by omega)⟩, trivial⟩ (fun _ _ h => h) ?_
    rintro st i j  hdi
    obtain ⟨hsl, hij, hjl, htk, hdr⟩ := id hdi
    refine Tr.seq ?_
    refine Tr.seq ?_
    refine Tr.reg0 ?_
    refine Ch.op rfl rfl (by decide) (ok_move rfl (vl rfl)) ?_
    refine Ch.op rfl rfl (by decide) (ok_move rfl (vl rfl)) ?_
    refine Ch.op rfl rfl (by decide) (okb_len rfl Tryz.underlying29 (vl rfl)) ?_
    refine Ch.op rfl rfl (by decide) (ok_int rfl (vl rfl) (vl rfl) rfl) ?_
    refine Ch.nil ?_
    refine Fin.go ?_
    refine Tr.cond rfl (fun h2 => ?_) (fun h2 => ?_)
    ·
      have q2 := Nrm.nrm h2
      have hjl2 : j < l.length := by have := lt_of_dec h2; omega
      obtain ⟨x, hlx⟩ := at_ (l := l) (k := j) hjl2
      have hx : st[j]? = some x := (del_at hdi).trans hlx
      refine Tr.skip ?_
      refine Fin.go ?_
      refine Tr.seq ?_
      refine Tr.block ?_
      refine Tr.seq ?_
      refine Tr.regT ?_
      refine TO.op rfl rfl (by decide) (ok_move rfl (vl rfl)) ?_
      refine TO.op rfl rfl (by decide) (ok_move rfl (vl rfl)) ?_
      refine TO.op rfl rfl (by decide) (okp_indexSl rfl Tryz.underlying29 sz40 (vl rfl) (vl rfl) (by omega) (by omega)) ?_
      refine TO.rd 0 rfl rfl rfl (by decide) (rd_loadA rfl agg40 sz40 (vl rfl) (cells_atN (f := rowFc) (fun _ => rfl) hx) rfl) ?_
      refine TO.alloc rfl rfl (by decide) rfl z40 zo40 (fun b1 => ?_)
      refine TO.store_all 0 rfl rfl rfl (vl rfl) (VL.le (vl rfl) (agg_cellsP _)) rfl sz40 rfl rfl ?_
      refine TO.freeze 0 7 rfl rfl ?_
      refine TO.nil ?_
      refine Fin.go ?_
      refine Tr.weak [(0, _), (1, _), (5, _), (6, _), (7, _)] ⟨⟨_, rfl, Pr.le_refl _⟩, ⟨_, rfl, Pr.le_refl _⟩, ⟨_, rfl, Pr.le_refl _⟩, ⟨_, rfl, Pr.le_refl _⟩, ⟨_, rfl, Pr.le_refl _⟩, trivial⟩ ?_
      refine Tr.seq ?_
      refine Tr.reg0 ?_
      refine Ch.op rfl rfl (by decide) (ok_move rfl (vl rfl)) ?_
      refine Ch.op rfl rfl (by decide) (ok_loadA rfl agg40 sz40 (vl rfl) rfl rfl) ?_
      refine Ch.op rfl rfl (by decide) (ok_callc x rfl (vl rfl) ⟨⟨_, rfl, Pr.le_refl _⟩, trivial⟩) ?_
      refine Ch.op rfl rfl (by decide) (ok_not rfl (vl rfl)) ?_
      refine Ch.nil ?_
      refine Fin.go ?_
      refine Tr.cond rfl (fun h3 => ?_) (fun h3 => ?_)
      ·
        have q3 := Nrm.nrm h3
        refine Tr.seq ?_
        refine Tr.regT ?_
        refine TO.op rfl rfl (by decide) (ok_move rfl (vl rfl)) ?_
        refine TO.op rfl rfl (by decide) (ok_move rfl (vl rfl)) ?_
        refine TO.op rfl rfl (by decide) (ok_loadA rfl agg40 sz40 (vl rfl) rfl rfl) ?_
        refine TO.op rfl rfl (by decide) (okp_indexSl rfl Tryz.underlying29 sz40 (vl rfl) (vl rfl) (by omega) (by omega)) ?_
        refine TO.ef0 0 rfl rfl (ef_store rfl rfl (vl rfl) (VL.le (vl rfl) (agg_cellsP _)) sz40 rfl (by rw [cells_len (sz := 8) (fun _ => rfl)]; omega) (cells_setN (f := rowFc) (fun _ => rfl) (by omega))) ?_
        refine TO.nil ?_
        refine Fin.go ?_
        refine Tr.reg0 ?_
        refine Ch.op rfl rfl (by decide) (ok_move rfl (vl rfl)) ?_
        first
          | (refine Ch.op rfl rfl (by decide) (ok_add rfl (vl rfl) (vl rfl) ?hin) ?_; case hin => unfold InI; omega)
          | refine Ch.op rfl rfl (by decide) (ok_int rfl (vl rfl) (vl rfl) rfl) ?_
        refine Ch.op rfl rfl (by decide) (ok_assign rfl (vl rfl)) ?_
        refine Ch.nil ?_
        refine Fin.block ?_
        refine Fin.go ?_
        refine Tr.weak [(0, _), (1, _), (5, _), (6, _)] ⟨⟨_, rfl, Pr.le_refl _⟩, ⟨_, rfl, Pr.le_refl _⟩, ⟨_, rfl, Pr.le_refl _⟩, ⟨_, rfl, Pr.le_refl _⟩, trivial⟩ ?_
        refine Tr.reg0 ?_
        refine Ch.op rfl rfl (by decide) (ok_move rfl (vl rfl)) ?_
        first
          | (refine Ch.op rfl rfl (by decide) (ok_add rfl (vl rfl) (vl rfl) ?hin) ?_; case hin => unfold InI; omega)
          | refine Ch.op rfl rfl (by decide) (ok_int rfl (vl rfl) (vl rfl) rfl) ?_
        refine Ch.op rfl rfl (by decide) (ok_assign rfl (vl rfl)) ?_
        refine Ch.nil ?_
        exact Fin.famD3V0 (st.set i x) (i + 1) (j + 1)  (⟨del_keep hdi hlx (by simp_all), by omega⟩) ⟨⟨_, rfl, int_succ i⟩, ⟨_, rfl, int_succ j⟩, ⟨_, rfl, Pr.le_refl _⟩, ⟨_, rfl, Pr.le_refl _⟩, trivial⟩ (fun _ _ h => h)
      ·
        have q3 := Nrm.nrm h3
        refine Tr.skip ?_
        refine Fin.block ?_
        refine Fin.go ?_
        refine Tr.reg0 ?_
        refine Ch.op rfl rfl (by decide) (ok_move rfl (vl rfl)) ?_
        first
          | (refine Ch.op rfl rfl (by decide) (ok_add rfl (vl rfl) (vl rfl) ?hin) ?_; case hin => unfold InI; omega)
          | refine Ch.op rfl rfl (by decide) (ok_int rfl (vl rfl) (vl rfl) rfl) ?_
        refine Ch.op rfl rfl (by decide) (ok_assign rfl (vl rfl)) ?_
        refine Ch.nil ?_
        exact Fin.famD3V0 (st) (i) (j + 1)  (⟨del_drop hdi hlx (by simp_all), by omega⟩) ⟨⟨_, rfl, Pr.le_refl _⟩, ⟨_, rfl, int_succ j⟩, ⟨_, rfl, Pr.le_refl _⟩, ⟨_, rfl, Pr.le_refl _⟩, trivial⟩ (fun _ _ h => h)
    ·
      have q2 := Nrm.nrm h2
      have hje : j = l.length := by have := ge_of_dec h2; omega
      subst hje
      obtain ⟨he1, he2, he3, he4⟩ := del_end hdi
      refine Tr.exit ?_
      refine Fin.then_exit ?_
      refine Fin.then_exit ?_
      refine Fin.block_here ?_
      refine Fin.go ?_
      refine Tr.seq ?_
      refine Tr.regT ?_
      refine TO.op rfl rfl (by decide) (ok_move rfl (vl rfl)) ?_
      refine TO.op rfl rfl (by decide) (ok_move rfl (vl rfl)) ?_
      refine TO.op rfl rfl (by decide) (okb_sliceFrom rfl Tryz.underlying29 sz40 (vl rfl) (vl rfl) (by omega) (by omega) (by omega)) ?_
      refine TO.ef0 0 rfl rfl (ef_clear rfl rfl Tryz.underlying29 sz40 z40 rfl (by decide) (by decide) (vl rfl) (by omega) (by rw [cells_len (sz := 8) (fun _ => rfl)]; omega) (cells_clearN (f := rowFc) (fun _ => rfl) (z := zeroFct) (by omega) (by omega))) ?_
      refine TO.nil ?_
      refine Fin.go ?_
      refine Tr.seq ?_
      refine Tr.reg0 ?_
      refine Ch.op rfl rfl (by decide) (ok_move rfl (vl rfl)) ?_
      refine Ch.op rfl rfl (by decide) (ok_move rfl (vl rfl)) ?_
      refine Ch.op rfl rfl (by decide) (okb_sliceTo rfl Tryz.underlying29 sz40 (vl rfl) (vl rfl) (by omega) (by omega) (by omega) (by omega)) ?_
      refine Ch.op rfl rfl (by decide) (ok_assign rfl (vl rfl)) ?_
      refine Ch.nil ?_
      refine Fin.go ?_
      refine Tr.weak [(4, _)] ⟨⟨_, rfl, Pr.le_refl _⟩, trivial⟩ ?_
      refine Tr.ret ?_
      refine Fin.retM1 rfl rfl ?_ (fun _ _ _ _ => by rw [← he2, ← he1, ← he3, List.map_append, List.flatten_append, List.append_assoc])
      · refine Pr.le_of_eq ?_; rw [List.length_map, ← he2, Int.toNat_natCast]
theorem e_DeleteF : Entry Tryz.prog 70 := ⟨_, Tryz.func70, rfl, rfl⟩
set_option maxRecDepth 20000 in
theorem w_Without0 {o : List Fct}  : Fun Tryz.prog 40 [fcts [], fcts o] (fcts []) := by
  refine Fun.of Tryz.func40 rfl rfl (by exact Nat.le_of_ble_eq_true rfl) fun M0 w0 => ?_
  refine Tr.seq ?_
  refine Tr.reg0 ?_
  refine Ch.op rfl rfl (by decide) (ok_box rfl (VL.le (vl rfl) (one_cellsP _))) ?_
  refine Ch.op rfl rfl (by decide) (ok_assign rfl (vl rfl)) ?_
  refine Ch.nil ?_
  refine Fin.go ?_
  refine Tr.seq ?_
  refine Tr.reg0 ?_
  refine Ch.op rfl rfl (by decide) (ok_move rfl (vl rfl)) ?_
  refine Ch.op rfl rfl (by decide) (ok_call rfl (w_Clone0) ⟨⟨_, rfl, Pr.le_refl _⟩, trivial⟩) ?_
  refine Ch.op rfl rfl (by decide) (ok_makeFunc rfl rfl) ?_
  refine Ch.op rfl rfl (by decide) (ok_call rfl (w_Delete0 (p := fun x => o.any (alikeF x))) ⟨⟨_, rfl, Pr.le_refl _⟩, ⟨_, rfl, fn_le_clo e_W1 (fun x => w_W1 (x := x) (o := o))⟩, trivial⟩) ?_
  refine Ch.op rfl rfl (by decide) (ok_assign rfl (vl rfl)) ?_
  refine Ch.nil ?_
  refine Fin.go ?_
  refine Tr.ret ?_
  refine Fin.ret1 rfl (OutW.bse _ _) rfl ?_
  · first | exact Pr.le_refl _ | (refine int_eq ?_; simp_all; done) | (refine bool_eq ?_; simp_all; done) | (refine bool_eq ?_; simp_all; omega) | (refine int_eq ?_; omega)
theorem e_Without0 : Entry Tryz.prog 40 := ⟨_, Tryz.func40, rfl, rfl⟩
set_option maxRecDepth 20000 in
theorem w_WithoutN {l o : List Fct} (h0 : l ≠ []) (hl : l.length ≤ 100000) : Fun Tryz.prog 40 [fcts l, fcts o] (fcts (without o l)) := by
  refine Fun.of Tryz.func40 rfl rfl (by exact Nat.le_of_ble_eq_true rfl) fun M0 w0 => ?_
  refine Tr.seq ?_
  refine Tr.reg0 ?_
  refine Ch.op rfl rfl (by decide) (ok_box rfl (VL.le (vl rfl) (one_cellsP _))) ?_
  refine Ch.op rfl rfl (by decide) (ok_assign rfl (vl rfl)) ?_
  refine Ch.nil ?_
  refine Fin.go ?_
  refine Tr.seq ?_
  refine Tr.regT ?_
  refine TO.op rfl rfl (by decide) (ok_move rfl (vl rfl)) ?_
  refine TO.pad ?_
  refine TO.efs 0 rfl rfl (by decide) (ef_call rfl rfl (by decide) rfl (w_CloneM (by assumption) (by omega)) ⟨⟨_, rfl, Pr.le_refl _⟩, trivial⟩) (fun v1 => ?_)
  refine TO.openM 0 rfl fun b1 cap1 sp1 hv1 hg1 hm1 hs1 => ?_
  subst hv1
  refine TO.op rfl rfl (by decide) (ok_makeFunc rfl rfl) ?_
  refine TO.efc 0 rfl rfl (by decide) (ef_callc rfl rfl (by decide) rfl (w_DeleteF (l := l) (p := fun x => o.any (alikeF x)) (sp := sp1) hg1 hm1 hs1) ⟨⟨_, rfl, andIs_is _ _⟩, ⟨_, rfl, fn_le_clo e_W1 (fun x => w_W1 (x := x) (o := o))⟩, trivial⟩) ?_
  refine TO.op rfl rfl (by decide) (ok_assign rfl (vl rfl)) ?_
  refine TO.nil ?_
  refine Fin.go ?_
  refine Tr.ret ?_
  refine Fin.frzS (sz := 8) ((without o l).map rowFc) 0 4 rfl rfl (Pr.le_refl _) (map_rows fun _ => rfl) (by rw [List.length_map] at hg1 ⊢; exact Nat.le_trans (List.length_filter_le _ _) hg1) hm1 (by simp only [List.length_append, List.length_map, hs1]; rw [flat_len (sz := 8) (map_rows fun _ => rfl)]; simp only [List.length_map, List.length_replicate]; exact spare_len (by rw [List.length_map] at hg1; exact hg1) (List.length_filter_le _ _)) ?_
  refine Fin.ret1 rfl (OutW.bse _ _) rfl ?_
  · exact andIs_le _ _
theorem e_WithoutN : Entry Tryz.prog 40 := ⟨_, Tryz.func40, rfl, rfl⟩

theorem w_Without {l o : List Fct} (hl : l.length ≤ 100000) : Fun Tryz.prog 40 [fcts l, fcts o] (fcts (without o l)) := by
  by_cases h : l = []
  · subst h; exact w_Without0
  · exact w_WithoutN h hl

set_option maxRecDepth 20000 in
theorem w_Changes {a b : List Fct} (ha : a.length ≤ 100000) (hb : b.length ≤ 100000) : Fun Tryz.prog 15 [fcts a, fcts b] (tup [fcts (without a b), fcts (without b a)]) := by
  refine Fun.of Tryz.func15 rfl rfl (by exact Nat.le_of_ble_eq_true rfl) fun M0 w0 => ?_
  refine Tr.seq ?_
  refine Tr.reg0 ?_
  refine Ch.op rfl rfl (by decide) (ok_assign rfl (vl rfl)) ?_
  refine Ch.op rfl rfl (by decide) (ok_assign rfl (vl rfl)) ?_
  refine Ch.nil ?_
  refine Fin.go ?_
  refine Tr.seq ?_
  refine Tr.reg0 ?_
  refine Ch.op rfl rfl (by decide) (ok_move rfl (vl rfl)) ?_
  refine Ch.op rfl rfl (by decide) (ok_move rfl (vl rfl)) ?_
  refine Ch.op rfl rfl (by decide) (ok_call rfl (w_Without (by assumption)) ⟨⟨_, rfl, Pr.le_refl _⟩, ⟨_, rfl, Pr.le_refl _⟩, trivial⟩) ?_
  refine Ch.op rfl rfl (by decide) (ok_move rfl (vl rfl)) ?_
  refine Ch.op rfl rfl (by decide) (ok_move rfl (vl rfl)) ?_
  refine Ch.op rfl rfl (by decide) (ok_call rfl (w_Without (by assumption)) ⟨⟨_, rfl, Pr.le_refl _⟩, ⟨_, rfl, Pr.le_refl _⟩, trivial⟩) ?_
  refine Ch.op rfl rfl (by decide) (ok_assign rfl (vl rfl)) ?_
  refine Ch.op rfl rfl (by decide) (ok_assign rfl (vl rfl)) ?_
  refine Ch.nil ?_
  refine Fin.go ?_
  refine Tr.ret ?_
  refine Fin.ret2 rfl (OutW.bse _ _) rfl ?_ rfl ?_
  · first | exact Pr.le_refl _ | (refine int_eq ?_; simp_all; done) | (refine bool_eq ?_; simp_all; done) | (refine bool_eq ?_; simp_all; omega) | (refine int_eq ?_; omega)
  · first | exact Pr.le_refl _ | (refine int_eq ?_; simp_all; done) | (refine bool_eq ?_; simp_all; done) | (refine bool_eq ?_; simp_all; omega) | (refine int_eq ?_; omega)
theorem e_Changes : Entry Tryz.prog 15 := ⟨_, Tryz.func15, rfl, rfl⟩
set_option maxRecDepth 20000 in
theorem w_RChanges {a b : List Fct} (ha : a.length ≤ 100000) (hb : b.length ≤ 100000) : Fun Tryz.prog 16 [fcts a, fcts b] (tup [fcts (without a b), fcts (without b a)]) := by
  refine Fun.of Tryz.func16 rfl rfl (by exact Nat.le_of_ble_eq_true rfl) fun M0 w0 => ?_
  refine Tr.seq ?_
  refine Tr.reg0 ?_
  refine Ch.op rfl rfl (by decide) (ok_assign rfl (vl rfl)) ?_
  refine Ch.op rfl rfl (by decide) (ok_assign rfl (vl rfl)) ?_
  refine Ch.nil ?_
  refine Fin.go ?_
  refine Tr.seq ?_
  refine Tr.reg0 ?_
  refine Ch.op rfl rfl (by decide) (ok_move rfl (vl rfl)) ?_
  refine Ch.op rfl rfl (by decide) (ok_move rfl (vl rfl)) ?_
  refine Ch.op rfl rfl (by decide) (ok_call rfl (w_RWithout (by assumption)) ⟨⟨_, rfl, Pr.le_refl _⟩, ⟨_, rfl, Pr.le_refl _⟩, trivial⟩) ?_
  refine Ch.op rfl rfl (by decide) (ok_move rfl (vl rfl)) ?_
  refine Ch.op rfl rfl (by decide) (ok_move rfl (vl rfl)) ?_
  refine Ch.op rfl rfl (by decide) (ok_call rfl (w_RWithout (by assumption)) ⟨⟨_, rfl, Pr.le_refl _⟩, ⟨_, rfl, Pr.le_refl _⟩, trivial⟩) ?_
  refine Ch.op rfl rfl (by decide) (ok_assign rfl (vl rfl)) ?_
  refine Ch.op rfl rfl (by decide) (ok_assign rfl (vl rfl)) ?_
  refine Ch.nil ?_
  refine Fin.go ?_
  refine Tr.ret ?_
  refine Fin.ret2 rfl (OutW.bse _ _) rfl ?_ rfl ?_
  · first | exact Pr.le_refl _ | (refine int_eq ?_; simp_all; done) | (refine bool_eq ?_; simp_all; done) | (refine bool_eq ?_; simp_all; omega) | (refine int_eq ?_; omega)
  · first | exact Pr.le_refl _ | (refine int_eq ?_; simp_all; done) | (refine bool_eq ?_; simp_all; done) | (refine bool_eq ?_; simp_all; omega) | (refine int_eq ?_; omega)
theorem e_RChanges : Entry Tryz.prog 16 := ⟨_, Tryz.func16, rfl, rfl⟩
end Go.Proofs.YthmnoekgicggnaaGreat
