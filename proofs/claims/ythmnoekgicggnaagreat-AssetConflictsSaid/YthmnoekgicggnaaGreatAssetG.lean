/-
  What the functions named below compute, proved from their text; printed by a program of our own.
-/
import Derived.Test.YthmnoekgicggnaaGreatTypes
import Derived.Test.YthmnoekgicggnaaGreatSlices
import Derived.Test.YthmnoekgicggnaaGreatEqs
import Derived.Test.YthmnoekgicggnaaGreatFindA
import Derived.Test.YthmnoekgicggnaaGreatFindD
import Derived.Test.YthmnoekgicggnaaGreatSortA
import Derived.Test.YthmnoekgicggnaaGreatSortB
import Derived.Test.YthmnoekgicggnaaGreatAssetA
import Derived.Test.YthmnoekgicggnaaGreatAssetB
import Derived.Test.YthmnoekgicggnaaGreatAssetC
import Derived.Test.YthmnoekgicggnaaGreatAssetD
import Derived.Test.YthmnoekgicggnaaGreatAssetE
import Derived.Test.YthmnoekgicggnaaGreatCoreX
namespace Go.Proofs.YthmnoekgicggnaaGreat
open Go Go.RowKit Cp

/-- An index into a list of n. -/
abbrev Idx (n : Nat) := {i : Int // 0 ≤ i ∧ i < (n : Int)}
abbrev rowX {n : Nat} (i : Idx n) : List Pr := [int i.1]
abbrev idxs {n : Nat} (l : List (Idx n)) : Pr := slice 1 (l.map rowX)
abbrev vals {n : Nat} (l : List (Idx n)) : List Int := l.map (·.1)
theorem vals_rows {n : Nat} (l : List (Idx n)) : (vals l).map (fun n => [int n]) = l.map rowX := by unfold vals; rw [List.map_map]; rfl
theorem vals_in {n : Nat} (l : List (Idx n)) : InR (vals l) n := by
  intro i hi
  obtain ⟨x, _, rfl⟩ := List.mem_map.1 hi
  exact x.2
theorem vals_idxs {n : Nat} (l : List (Idx n)) : ints (vals l) = idxs l := by show slice 1 _ = slice 1 _; rw [vals_rows]
theorem w_SortIdx {n : Nat} {l : List (Idx n)} (hl : Asc (vals l)) (hs : l.length < 50) : Fun Tryz.prog 61 [idxs l] unit_ := by
  have := w_SortAll hl (by simpa using hs); rwa [vals_idxs] at this
theorem w_CompIdx {n : Nat} {l : List (Idx n)} {v : Value} (hl : Asc (vals l)) (hs : l.length < 50) : Fun Tryz.prog 62 [andIs v (idxs l)] (is v) := by
  have := w_CompAsc (v := v) hl (by simp; omega); rwa [vals_idxs] at this

set_option maxRecDepth 20000 in
theorem w_IndexFuncX {n : Nat} {l : List (Idx n)} {p : Idx n → Bool}  : Fun Tryz.prog 76 [idxs l, clo Tryz.prog (fun x : Idx n => [int x.1]) (fun x => bool (p x))] (int (idx p l)) := by
  refine Fun.of Tryz.func76 rfl rfl (by exact Nat.le_of_ble_eq_true rfl) fun M0 w0 => ?_
  refine Tr.lenm 0 rfl fun hlm_0 => ?_
  refine Tr.seq ?_
  refine Tr.reg0 ?_
  refine Ch.op rfl rfl (by decide) (ok_assign rfl (vl rfl)) ?_
  refine Ch.nil ?_
  refine Fin.go ?_
  refine Tr.seq ?_
  refine Tr.seq ?_
  refine Tr.reg0 ?_
  refine Ch.op rfl rfl (by decide) (ok_move rfl (vl rfl)) ?_
  first
    | refine Ch.op rfl rfl (by decide) (ok_lenm rfl Tryz.underlying22 (vl rfl)) ?_
    | refine Ch.op rfl rfl (by decide) (ok_len rfl Tryz.underlying22 (vl rfl)) ?_
  refine Ch.op rfl rfl (by decide) (ok_move rfl (vl rfl)) ?_
  refine Ch.nil ?_
  refine Fin.go ?_
  refine Tr.block ?_
  refine Tr.loopw [(0, _), (1, _), (7, _)] ⟨⟨_, rfl, Pr.le_refl _⟩, ⟨_, rfl, Pr.le_refl _⟩, ⟨_, rfl, Pr.le_refl _⟩, trivial⟩ (fun k : Nat => [(8, int ((k : Nat) : Int))]) (fun k : Nat => k ≤ (l).length ∧ (∀ j y, j < k → l[j]? = some y → p y = false)) (fun k : Nat => (l).length - k) 0 (⟨Nat.zero_le _, fun j y hj => absurd hj (by omega)⟩) ⟨⟨_, rfl, Pr.le_refl _⟩, trivial⟩ ?_
  rintro k ⟨hle_k, hinv_k⟩
  refine Tr.seq ?_
  refine Tr.reg0 ?_
  refine Ch.op rfl rfl (by decide) (ok_int rfl (vl rfl) (vl rfl) rfl) ?_
  refine Ch.nil ?_
  refine Fin.go ?_
  refine Tr.seq ?_
  refine Tr.cond rfl (fun h1 => ?_) (fun h1 => ?_)
  ·
    have q1 := Nrm.nrm h1
    have hk_k : k < (l).length := lt_of_dec h1
    obtain ⟨x, hx_k⟩ := at_ hk_k
    refine Tr.skip ?_
    refine Fin.go ?_
    refine Tr.seq ?_
    refine Tr.block ?_
    refine Tr.seq ?_
    refine Tr.reg0 ?_
    refine Ch.op rfl rfl (by decide) (ok_move rfl (vl rfl)) ?_
    refine Ch.op rfl rfl (by decide) (ok_assign rfl (vl rfl)) ?_
    refine Ch.nil ?_
    refine Fin.go ?_
    refine Tr.seq ?_
    refine Tr.reg0 ?_
    refine Ch.op rfl rfl (by decide) (ok_move rfl (vl rfl)) ?_
    refine Ch.op rfl rfl (by decide) (ok_move rfl (vl rfl)) ?_
    refine Ch.op rfl rfl (by decide) (ok_move rfl (vl rfl)) ?_
    refine Ch.op rfl rfl (by decide) (ok_indexAddr rfl Tryz.underlying22 sz3 (vl rfl) (vl rfl) (by omega) (by first | exact row_at (by assumption) | exact row_atI (by assumption) | assumption)) ?_
    refine Ch.op rfl rfl (by decide) (ok_load1 rfl one3 (vl rfl)) ?_
    refine Ch.op rfl rfl (by decide) (ok_callc x rfl (vl rfl) ⟨⟨_, rfl, Pr.le_refl _⟩, trivial⟩) ?_
    refine Ch.nil ?_
    refine Fin.go ?_
    refine Tr.cond rfl (fun h2 => ?_) (fun h2 => ?_)
    ·
      have q2 := Nrm.nrm h2
      refine Tr.seq ?_
      refine Tr.reg0 ?_
      refine Ch.op rfl rfl (by decide) (ok_move rfl (vl rfl)) ?_
      refine Ch.op rfl rfl (by decide) (ok_assign rfl (vl rfl)) ?_
      refine Ch.nil ?_
      refine Fin.go ?_
      refine Tr.weak [(4, _)] ⟨⟨_, rfl, Pr.le_refl _⟩, trivial⟩ ?_
      refine Tr.ret ?_
      refine Fin.block_ret ?_
      refine Fin.then_ret ?_
      refine Fin.then_ret ?_
      refine Fin.block_ret ?_
      refine Fin.then_ret ?_
      refine Fin.ret1 rfl (OutW.bse _ _) rfl ?_
      · exact int_eq (idx_found hx_k (by assumption) hinv_k)
    ·
      have q2 := Nrm.nrm h2
      refine Tr.skip ?_
      refine Fin.block ?_
      refine Fin.go ?_
      refine Tr.reg0 ?_
      first
        | (refine Ch.op rfl rfl (by decide) (ok_add rfl (vl rfl) (vl rfl) ?hin) ?_; case hin => unfold InI; omega)
        | refine Ch.op rfl rfl (by decide) (ok_int rfl (vl rfl) (vl rfl) rfl) ?_
      refine Ch.op rfl rfl (by decide) (ok_move rfl (vl rfl)) ?_
      refine Ch.nil ?_
      exact Fin.fam_same (k + 1) ⟨⟨hk_k, step_no hx_k (by assumption) hinv_k⟩, by omega⟩ ⟨⟨_, rfl, int_succ k⟩, ⟨_, rfl, Pr.le_refl _⟩, ⟨_, rfl, Pr.le_refl _⟩, ⟨_, rfl, Pr.le_refl _⟩, trivial⟩
  ·
    have q1 := Nrm.nrm h1
    have he_k : k = (l).length := by have := ge_of_dec h1; omega
    subst he_k
    refine Tr.exit ?_
    refine Fin.then_exit ?_
    refine Fin.then_exit ?_
    refine Fin.block_here ?_
    refine Fin.go ?_
    refine Tr.seq ?_
    refine Tr.reg0 ?_
    refine Ch.op rfl rfl (by decide) (ok_assign rfl (vl rfl)) ?_
    refine Ch.nil ?_
    refine Fin.go ?_
    refine Tr.ret ?_
    refine Fin.ret1 rfl (OutW.bse _ _) rfl ?_
    · exact int_eq (idx_none hinv_k)
theorem e_IndexFuncX : Entry Tryz.prog 76 := ⟨_, Tryz.func76, rfl, rfl⟩
set_option maxRecDepth 20000 in
theorem w_CloneIM {n : Nat} {l : List (Idx n)} (h0 : l ≠ []) (hl : l.length ≤ 100000) : FunM Tryz.prog 60 [idxs l] (lens (l.map rowX).length) (noRes) (fun v => mutRes 3 1 (l.map rowX) v) := by
  refine FunM.of Tryz.func60 rfl rfl (by exact Nat.le_of_ble_eq_true rfl) fun M0 w0 S rs M1 w1 => ?_
  have hpos := len_pos h0
  refine Tr.seq ?_
  refine Tr.reg0 ?_
  refine Ch.op rfl rfl (by decide) (ok_assign rfl (vl rfl)) ?_
  refine Ch.nil ?_
  refine Fin.go ?_
  refine Tr.seq ?_
  refine Tr.seq ?_
  refine Tr.reg0 ?_
  refine Ch.op rfl rfl (by decide) (ok_move rfl (vl rfl)) ?_
  refine Ch.op rfl rfl (by decide) (ok_eqnil rfl Tryz.underlying22 (vl rfl)) ?_
  refine Ch.nil ?_
  refine Fin.go ?_
  refine Tr.ex 4 rfl (fun z1 => Tr.fact 4 rfl fun hz1 => ?_)
  refine Tr.cond rfl (fun h1 => ?_) (fun h1 => ?_)
  ·
    have q1 := Nrm.nrm h1
    exfalso; have := hz1 h1; simp_all
  ·
    have q1 := Nrm.nrm h1
    refine Tr.skip ?_
    refine Fin.go ?_
    refine Tr.seq ?_
    refine Tr.regT ?_
    refine TO.op rfl rfl (by decide) (ok_buildSlice (xs := []) (rows := []) rfl rfl Tryz.underlying22 sz3 z3 rfl (by decide) trivial (by decide)) ?_
    refine TO.op rfl rfl (by decide) (ok_move rfl (vl rfl)) ?_
    refine TO.pad ?_
    refine TO.efs 0 rfl rfl (by decide) (ef_appvoid rfl rfl (by decide) rfl Tryz.underlying22 sz3 by3 z3 rfl (by decide) (by decide) (vl rfl) (vl rfl) (by rw [List.length_map]; exact hpos) (by rw [List.length_map]; unfold maxLen; omega) (by rw [List.length_map]; omega)) (fun v1 => ?_)
    refine TO.op rfl rfl (by decide) (ok_assign rfl (vl rfl)) ?_
    refine TO.nil ?_
    refine Fin.go ?_
    refine Tr.ret ?_
    refine Fin.drop 1 ?_
    refine Fin.retM1 rfl rfl ?_ (by intro _ _ _ h; rw [h.1])
    · exact andIs_le _ _
theorem e_CloneIM : Entry Tryz.prog 60 := ⟨_, Tryz.func60, rfl, rfl⟩
set_option maxRecDepth 20000 in
theorem w_DeleteI {n : Nat} {l : List (Idx n)} {p : Idx n → Bool} {b cap : Nat} {sp : List Value} (h0 : l ≠ []) (hc : (l.map rowX).length ≤ cap) (hm : cap ≤ maxLen) (hq : sp.length = (cap - (l.map rowX).length) * 1) : FunM Tryz.prog 42 [is (.slice (some ⟨b, 0, none⟩) (l.map rowX).length cap), clo Tryz.prog (fun x : Idx n => [int x.1]) (fun x => bool (p x))] (is (.slice (some ⟨b, 0, none⟩) ((l.filter fun x => !p x).map rowX).length cap)) (cellsRes true b 3 ((l.map rowX).flatten ++ sp.map is)) (fun _ => cellsRes true b 3 (((l.filter fun x => !p x).map rowX).flatten ++ ((List.replicate (l.length - (l.filter fun x => !p x).length) [int 0]).flatten ++ sp.map is))) := by
  refine FunM.of Tryz.func42 rfl rfl (by exact Nat.le_of_ble_eq_true rfl) fun M0 w0 S rs M1 w1 => ?_
  have hlm : (l.map rowX).length = l.length := List.length_map ..
  have hmx : cap ≤ 9223372036854775807 := by unfold maxLen at hm; omega
  refine Tr.seq ?_
  refine Tr.reg0 ?_
  refine Ch.op rfl rfl (by decide) (ok_assign rfl (vl rfl)) ?_
  refine Ch.nil ?_
  refine Fin.go ?_
  refine Tr.seq ?_
  refine Tr.regT ?_
  refine TO.op rfl rfl (by decide) (ok_move rfl (vl rfl)) ?_
  refine TO.op rfl rfl (by decide) (ok_move rfl (vl rfl)) ?_
  refine TO.efc 0 rfl rfl (by decide) (ef_pure (l.map rowX) rfl rfl (by decide) rfl (w_IndexFuncX (l := l) (p := p)) (map_rows fun _ => rfl) hc hm (by rw [List.length_map]; exact hq) ⟨.inr ⟨(vl rfl), andIs_le _ _⟩, .inl ⟨_, rfl, Pr.le_refl _⟩, trivial⟩) ?_
  refine TO.op rfl rfl (by decide) (ok_assign rfl (vl rfl)) ?_
  refine TO.nil ?_
  refine Fin.go ?_
  refine Tr.seq ?_
  refine Tr.seq ?_
  refine Tr.reg0 ?_
  refine Ch.op rfl rfl (by decide) (ok_move rfl (vl rfl)) ?_
  refine Ch.op rfl rfl (by decide) (ok_int rfl (vl rfl) (vl rfl) rfl) ?_
  refine Ch.nil ?_
  refine Fin.go ?_
  refine Tr.cond rfl (fun h1 => ?_) (fun h1 => ?_)
  ·
    have q1 := Nrm.nrm h1
    have hno := idx_no (p := p) (l := l) (by simpa using h1)
    refine Tr.seq ?_
    refine Tr.reg0 ?_
    refine Ch.op rfl rfl (by decide) (ok_move rfl (vl rfl)) ?_
    refine Ch.op rfl rfl (by decide) (ok_assign rfl (vl rfl)) ?_
    refine Ch.nil ?_
    refine Fin.go ?_
    refine Tr.ret ?_
    refine Fin.then_ret ?_
    refine Fin.retM1 rfl rfl ?_ (fun _ _ _ _ => by rw [hno, Nat.sub_self]; rfl)
    · rw [hno]; exact Pr.le_refl _
  ·
    have q1 := Nrm.nrm h1
    obtain ⟨hi0, hil, hdi⟩ := idx_at (p := p) (l := l) (by simpa using h1)
    refine Tr.skip ?_
    refine Fin.go ?_
    refine Tr.seq ?_
    refine Tr.seq ?_
    refine Tr.reg0 ?_
    refine Ch.op rfl rfl (by decide) (ok_move rfl (vl rfl)) ?_
    first
      | (refine Ch.op rfl rfl (by decide) (ok_add rfl (vl rfl) (vl rfl) ?hin) ?_; case hin => unfold InI; omega)
      | refine Ch.op rfl rfl (by decide) (ok_int rfl (vl rfl) (vl rfl) rfl) ?_
    refine Ch.op rfl rfl (by decide) (ok_assign rfl (vl rfl)) ?_
    refine Ch.nil ?_
    refine Fin.go ?_
    refine Tr.block ?_
    refine Tr.loopD3V0 [(0, _), (1, _)] ⟨⟨_, rfl, Pr.le_refl _⟩, ⟨_, rfl, Pr.le_refl _⟩, trivial⟩ (fun (st : List (Idx n)) (i : Nat) (j : Nat) => [(5, int ((i : Nat) : Int)), (6, int ((j : Nat) : Int))]) (fun (st : List (Idx n)) (i : Nat) (j : Nat) => Hp M0 w0 S (cellsRes true b 3 ((st.map rowX).flatten ++ sp.map is) :: extRes M1 w1 :: rs)) (fun (st : List (Idx n)) (i : Nat) (j : Nat) => DelI p l st i j) (fun (st : List (Idx n)) (i : Nat) (j : Nat) => l.length - j) (l) ((idx p l).toNat) ((idx p l).toNat + 1)  (hdi) ⟨⟨_, rfl, int_eq (by omega)⟩, ⟨_, rfl, int_eq (by omega)⟩, trivial⟩ (fun _ _ h => h) ?_
    rintro st i j  hdi
    obtain ⟨hsl, hij, hjl, htk, hdr⟩ := id hdi
    refine Tr.seq ?_
    refine Tr.seq ?_
    refine Tr.reg0 ?_
    refine Ch.op rfl rfl (by decide) (ok_move rfl (vl rfl)) ?_
    refine Ch.op rfl rfl (by decide) (ok_move rfl (vl rfl)) ?_
    refine Ch.op rfl rfl (by decide) (okb_len rfl Tryz.underlying22 (vl rfl)) ?_
    refine Ch.op rfl rfl (by decide) (ok_int rfl (vl rfl) (vl rfl) rfl) ?_
    refine Ch.nil ?_
    refine Fin.go ?_
    refine Tr.cond rfl (fun h2 => ?_) (fun h2 => ?_)
    ·
      have q2 := Nrm.nrm h2
      have hjl2 : j < l.length := by have := lt_of_dec h2; omega
      obtain ⟨x, hlx⟩ := at_ (l := l) (k := j) hjl2
      have hx : st[j]? = some x := (del_at hdi).trans hlx
      refine Tr.skip ?_
      refine Fin.go ?_
      refine Tr.seq ?_
      refine Tr.block ?_
      refine Tr.seq ?_
      refine Tr.reg0 ?_
      refine Ch.op rfl rfl (by decide) (ok_move rfl (vl rfl)) ?_
      refine Ch.op rfl rfl (by decide) (ok_move rfl (vl rfl)) ?_
      refine Ch.op rfl rfl (by decide) (okp_indexSl rfl Tryz.underlying22 sz3 (vl rfl) (vl rfl) (by omega) (by omega)) ?_
      refine Ch.op rfl rfl (by decide) (ok_rd 0 rfl (rd_load1 rfl one3 (vl rfl) (cell1_at (f := rowX) (fun _ => rfl) (by rw [Int.toNat_natCast]; exact hx) rfl))) ?_
      refine Ch.op rfl rfl (by decide) (ok_assign rfl (vl rfl)) ?_
      refine Ch.nil ?_
      refine Fin.go ?_
      refine Tr.seq ?_
      refine Tr.reg0 ?_
      refine Ch.op rfl rfl (by decide) (ok_move rfl (vl rfl)) ?_
      refine Ch.op rfl rfl (by decide) (ok_move rfl (vl rfl)) ?_
      refine Ch.op rfl rfl (by decide) (ok_callc x rfl (vl rfl) ⟨⟨_, rfl, Pr.le_refl _⟩, trivial⟩) ?_
      refine Ch.op rfl rfl (by decide) (ok_not rfl (vl rfl)) ?_
      refine Ch.nil ?_
      refine Fin.go ?_
      refine Tr.weak [(0, _), (1, _), (5, _), (6, _), (7, _), (29, _)] ⟨⟨_, rfl, Pr.le_refl _⟩, ⟨_, rfl, Pr.le_refl _⟩, ⟨_, rfl, Pr.le_refl _⟩, ⟨_, rfl, Pr.le_refl _⟩, ⟨_, rfl, Pr.le_refl _⟩, ⟨_, rfl, Pr.le_refl _⟩, trivial⟩ ?_
      refine Tr.cond rfl (fun h3 => ?_) (fun h3 => ?_)
      ·
        have q3 := Nrm.nrm h3
        refine Tr.seq ?_
        refine Tr.regT ?_
        refine TO.op rfl rfl (by decide) (ok_move rfl (vl rfl)) ?_
        refine TO.op rfl rfl (by decide) (ok_move rfl (vl rfl)) ?_
        refine TO.op rfl rfl (by decide) (ok_move rfl (vl rfl)) ?_
        refine TO.op rfl rfl (by decide) (okp_indexSl rfl Tryz.underlying22 sz3 (vl rfl) (vl rfl) (by omega) (by omega)) ?_
        refine TO.ef0 0 rfl rfl (ef_store rfl rfl (vl rfl) (VL.le (vl rfl) (one_cellsP _)) sz3 rfl (by rw [cells_len (sz := 1) (fun _ => rfl)]; omega) (cells_setN (f := rowX) (x := x) (fun _ => rfl) (by omega))) ?_
        refine TO.nil ?_
        refine Fin.go ?_
        refine Tr.reg0 ?_
        refine Ch.op rfl rfl (by decide) (ok_move rfl (vl rfl)) ?_
        first
          | (refine Ch.op rfl rfl (by decide) (ok_add rfl (vl rfl) (vl rfl) ?hin) ?_; case hin => unfold InI; omega)
          | refine Ch.op rfl rfl (by decide) (ok_int rfl (vl rfl) (vl rfl) rfl) ?_
        refine Ch.op rfl rfl (by decide) (ok_assign rfl (vl rfl)) ?_
        refine Ch.nil ?_
        refine Fin.block ?_
        refine Fin.go ?_
        refine Tr.reg0 ?_
        refine Ch.op rfl rfl (by decide) (ok_move rfl (vl rfl)) ?_
        first
          | (refine Ch.op rfl rfl (by decide) (ok_add rfl (vl rfl) (vl rfl) ?hin) ?_; case hin => unfold InI; omega)
          | refine Ch.op rfl rfl (by decide) (ok_int rfl (vl rfl) (vl rfl) rfl) ?_
        refine Ch.op rfl rfl (by decide) (ok_assign rfl (vl rfl)) ?_
        refine Ch.nil ?_
        exact Fin.famD3V0 (st.set i x) (i + 1) (j + 1)  (⟨del_keep hdi hlx (by simp_all), by omega⟩) ⟨⟨_, rfl, int_succ i⟩, ⟨_, rfl, int_succ j⟩, ⟨_, rfl, Pr.le_refl _⟩, ⟨_, rfl, Pr.le_refl _⟩, trivial⟩ (fun _ _ h => h)
      ·
        have q3 := Nrm.nrm h3
        refine Tr.skip ?_
        refine Fin.block ?_
        refine Fin.go ?_
        refine Tr.reg0 ?_
        refine Ch.op rfl rfl (by decide) (ok_move rfl (vl rfl)) ?_
        first
          | (refine Ch.op rfl rfl (by decide) (ok_add rfl (vl rfl) (vl rfl) ?hin) ?_; case hin => unfold InI; omega)
          | refine Ch.op rfl rfl (by decide) (ok_int rfl (vl rfl) (vl rfl) rfl) ?_
        refine Ch.op rfl rfl (by decide) (ok_assign rfl (vl rfl)) ?_
        refine Ch.nil ?_
        exact Fin.famD3V0 (st) (i) (j + 1)  (⟨del_drop hdi hlx (by simp_all), by omega⟩) ⟨⟨_, rfl, Pr.le_refl _⟩, ⟨_, rfl, int_succ j⟩, ⟨_, rfl, Pr.le_refl _⟩, ⟨_, rfl, Pr.le_refl _⟩, trivial⟩ (fun _ _ h => h)
    ·
      have q2 := Nrm.nrm h2
      have hje : j = l.length := by have := ge_of_dec h2; omega
      subst hje
      obtain ⟨he1, he2, he3, he4⟩ := del_end hdi
      refine Tr.exit ?_
      refine Fin.then_exit ?_
      refine Fin.then_exit ?_
      refine Fin.block_here ?_
      refine Fin.go ?_
      refine Tr.seq ?_
      refine Tr.regT ?_
      refine TO.op rfl rfl (by decide) (ok_move rfl (vl rfl)) ?_
      refine TO.op rfl rfl (by decide) (ok_move rfl (vl rfl)) ?_
      refine TO.op rfl rfl (by decide) (okb_sliceFrom rfl Tryz.underlying22 sz3 (vl rfl) (vl rfl) (by omega) (by omega) (by omega)) ?_
      refine TO.ef0 0 rfl rfl (ef_clear rfl rfl Tryz.underlying22 sz3 z3 rfl (by decide) (by decide) (vl rfl) (by omega) (by rw [cells_len (sz := 1) (fun _ => rfl)]; omega) (cells_clearR (f := rowX) (fun _ => rfl) rfl (by omega) (by omega))) ?_
      refine TO.nil ?_
      refine Fin.go ?_
      refine Tr.seq ?_
      refine Tr.reg0 ?_
      refine Ch.op rfl rfl (by decide) (ok_move rfl (vl rfl)) ?_
      refine Ch.op rfl rfl (by decide) (ok_move rfl (vl rfl)) ?_
      refine Ch.op rfl rfl (by decide) (okb_sliceTo rfl Tryz.underlying22 sz3 (vl rfl) (vl rfl) (by omega) (by omega) (by omega) (by omega)) ?_
      refine Ch.op rfl rfl (by decide) (ok_assign rfl (vl rfl)) ?_
      refine Ch.nil ?_
      refine Fin.go ?_
      refine Tr.weak [(4, _)] ⟨⟨_, rfl, Pr.le_refl _⟩, trivial⟩ ?_
      refine Tr.ret ?_
      refine Fin.retM1 rfl rfl ?_ (fun _ _ _ _ => by rw [← he2, ← he1, ← he3, List.append_assoc]; rfl)
      · refine Pr.le_of_eq ?_; rw [List.length_map, ← he2, Int.toNat_natCast]
theorem e_DeleteI : Entry Tryz.prog 42 := ⟨_, Tryz.func42, rfl, rfl⟩
set_option maxRecDepth 20000 in
theorem w_indicesM {l : List Fnd} {n : Int} {own : List (Idx l.length)} (ha : Asc (vals own)) (h0 : own ≠ []) (hs : own.length < 50) : FunM Tryz.prog 35 [fnds l, agg [int n, any, any, idxs own]] (tup [lens (own.map rowX).length, bool true]) (noRes) (fun v => mutRes 3 1 (own.map rowX) (tupFst v)) := by
  refine FunM.of Tryz.func35 rfl rfl (by exact Nat.le_of_ble_eq_true rfl) fun M0 w0 S rs M1 w1 => ?_
  refine Tr.lenm 0 rfl fun hlm_0 => ?_
  have hpos := len_pos h0
  have hlm : (own.map rowX).length = own.length := List.length_map ..
  obtain ⟨a, ha0⟩ := at_ (l := own) (k := 0) hpos
  obtain ⟨z, hz⟩ := at_ (l := own) (k := own.length - 1) (by omega)
  have hap := a.2
  have hzp := z.2
  refine Tr.seq ?_
  refine Tr.reg0 ?_
  refine Ch.op rfl rfl (by decide) (ok_box rfl (VL.le (vl rfl) (agg_cellsP _))) ?_
  refine Ch.op rfl rfl (by decide) (ok_assign rfl (vl rfl)) ?_
  refine Ch.op rfl rfl (by decide) (ok_assign rfl (vl rfl)) ?_
  refine Ch.nil ?_
  refine Fin.go ?_
  refine Tr.seq ?_
  refine Tr.regT ?_
  refine TO.op rfl rfl (by decide) (ok_fieldAddr rfl fo35_3 (vl rfl) rfl) ?_
  refine TO.op rfl rfl (by decide) (ok_load1 rfl one22 (vl rfl)) ?_
  refine TO.pad ?_
  refine TO.efs 0 rfl rfl (by decide) (ef_call rfl rfl (by decide) rfl (w_CloneIM (by assumption) (by omega)) ⟨⟨_, rfl, Pr.le_refl _⟩, trivial⟩) (fun v1 => ?_)
  refine TO.openM 0 rfl fun b1 cap1 sp1 hv1 hg1 hm1 hs1 => ?_
  subst hv1
  refine TO.op rfl rfl (by decide) (ok_assign rfl (vl rfl)) ?_
  refine TO.nil ?_
  refine Fin.go ?_
  refine Tr.seq ?_
  refine Tr.regT ?_
  refine TO.op rfl rfl (by decide) (ok_move rfl (vl rfl)) ?_
  refine TO.efc 0 rfl rfl (by decide) (ef_pure (own.map rowX) rfl rfl (by decide) rfl (w_SortIdx ha hs) (map_rows fun _ => rfl) hg1 hm1 (by rw [List.length_map]; exact hs1) ⟨.inr ⟨⟨_, rfl, andIs_is _ _⟩, andIs_le _ _⟩, trivial⟩) ?_
  refine TO.nil ?_
  refine Fin.go ?_
  refine Tr.seq ?_
  refine Tr.regT ?_
  refine TO.op rfl rfl (by decide) (ok_move rfl (vl rfl)) ?_
  refine TO.efc 0 rfl rfl (by decide) (ef_pure (own.map rowX) rfl rfl (by decide) rfl (w_CompIdx ha hs) (map_rows fun _ => rfl) hg1 hm1 (by rw [List.length_map]; exact hs1) ⟨.inr ⟨⟨_, rfl, andIs_is _ _⟩, Pr.le_refl _⟩, trivial⟩) ?_
  refine TO.op rfl rfl (by decide) (ok_assign rfl (vl rfl)) ?_
  refine TO.nil ?_
  refine Fin.go ?_
  refine Tr.seq ?_
  refine Tr.reg1 mixed (by kernel_rfl) ?_
  refine Ch.op rfl rfl (by decide) (ok_move rfl (vl rfl)) ?_
  refine Ch.op rfl rfl (by decide) (ok_move rfl (vl rfl)) ?_
  refine Ch.op rfl rfl (by decide) (okb_len rfl Tryz.underlying22 (vl rfl)) ?_
  refine Ch.op rfl rfl (by decide) (ok_int rfl (vl rfl) (vl rfl) rfl) ?_
  refine Ch.op rfl rfl (by decide) (ok_move rfl (vl rfl)) ?_
  refine Ch.cases 18 rfl (fun h1 => ?_) (fun h1 => ?_)
  ·
    have q1 := Nrm.nrm h1
    exfalso; simp at h1; omega
  ·
    have q1 := Nrm.nrm h1
    refine Ch.yes rfl rfl rfl h1 rfl (by decide) (ok_move rfl (vl rfl)) ?_
    refine Ch.yes rfl rfl rfl h1 rfl (by decide) (okp_indexSl rfl Tryz.underlying22 sz3 (vl rfl) (vl rfl) (by omega) (by omega)) ?_
    refine Ch.yes rfl rfl rfl h1 rfl (by decide) (ok_rd 0 rfl (rd_load1 rfl one3 (vl rfl) (cell1_at (f := rowX) (x := a) (fun _ => rfl) ha0 rfl))) ?_
    refine Ch.yes rfl rfl rfl h1 rfl (by decide) (ok_int rfl (vl rfl) (vl rfl) rfl) ?_
    refine Ch.yes rfl rfl rfl h1 rfl (by decide) (ok_move rfl (vl rfl)) ?_
    refine Ch.cases 23 rfl (fun h2 => ?_) (fun h2 => ?_)
    ·
      have q2 := Nrm.nrm h2
      refine Ch.yes rfl rfl rfl h2 rfl (by decide) (ok_move rfl (vl rfl)) ?_
      refine Ch.yes rfl rfl rfl h2 rfl (by decide) (ok_move rfl (vl rfl)) ?_
      refine Ch.yes rfl rfl rfl h2 rfl (by decide) (okb_len rfl Tryz.underlying22 (vl rfl)) ?_
      first
        | (refine Ch.yes rfl rfl rfl h2 rfl (by decide) (ok_sub rfl (vl rfl) (vl rfl) ?hin) ?_; case hin => unfold InI; omega)
        | refine Ch.yes rfl rfl rfl h2 rfl (by decide) (ok_int rfl (vl rfl) (vl rfl) rfl) ?_
      refine Ch.yes rfl rfl rfl h2 rfl (by decide) (okp_indexSl rfl Tryz.underlying22 sz3 (vl rfl) (vl rfl) (by omega) (by omega)) ?_
      refine Ch.yes rfl rfl rfl h2 rfl (by decide) (ok_rd 0 rfl (rd_load1 rfl one3 (vl rfl) (cell1_at (f := rowX) (x := z) (fun _ => rfl) (by rw [show (((own.map rowX).length : Int) - 1).toNat = own.length - 1 by omega]; exact hz) rfl))) ?_
      refine Ch.yes rfl rfl rfl h2 rfl (by decide) (ok_move rfl (vl rfl)) ?_
      first
        | refine Ch.yes rfl rfl rfl h2 rfl (by decide) (ok_lenm rfl Tryz.underlying27 (vl rfl)) ?_
        | refine Ch.yes rfl rfl rfl h2 rfl (by decide) (ok_len rfl Tryz.underlying27 (vl rfl)) ?_
      refine Ch.yes rfl rfl rfl h2 rfl (by decide) (ok_int rfl (vl rfl) (vl rfl) rfl) ?_
      refine Ch.yes rfl rfl rfl h1 rfl (by decide) (ok_pick_t rfl (vl rfl) h2 (vl rfl)) ?_
      refine Ch.op rfl rfl (by decide) (ok_pick_f rfl (vl rfl) h1 (vl rfl)) ?_
      refine Ch.op rfl rfl (by decide) (ok_assign rfl (vl rfl)) ?_
      refine Ch.op rfl rfl (by decide) (ok_assign rfl (vl rfl)) ?_
      refine Ch.nil ?_
      refine Fin.go ?_
      refine Tr.weak [(4, _), (5, _)] ⟨⟨_, rfl, Pr.le_refl _⟩, ⟨_, rfl, Pr.le_refl _⟩, trivial⟩ ?_
      refine Tr.ret ?_
      refine Fin.drop 1 ?_
      refine Fin.closeM 0 rfl hg1 hm1 hs1 ?_
      refine Fin.retT2 rfl rfl ?_ (Pr.le_refl _) rfl ?_
      · exact fun _ _ _ h => ⟨_, _, h⟩
      · refine bool_eq ?_; simp; omega
    ·
      have q2 := Nrm.nrm h2
      exfalso; omega
theorem e_indicesM : Entry Tryz.prog 35 := ⟨_, Tryz.func35, rfl, rfl⟩
end Go.Proofs.YthmnoekgicggnaaGreat
