/-
  What the functions named below compute, proved from their text; printed by a program of our own.
-/
import Derived.Test.YtacifhfelijekaaTypes
import Derived.Test.YtacifhfelijekaaSlices
import Derived.Test.YtacifhfelijekaaWin1
import Derived.Test.YtacifhfelijekaaWin2
import Derived.Test.YtacifhfelijekaaWin3
import Derived.Test.YtacifhfelijekaaDice
import Derived.Test.YtacifhfelijekaaMove
import Derived.Test.YtacifhfelijekaaCoreR
namespace Go.Proofs.Ytacifhfelijekaa
open Go Go.RowKit Cp

def oddTeams : List (List Int) := [[1, 0], [0, 0], [2], [-1]]

set_option maxHeartbeats 400000 in
theorem w_odd {b : Nat} {s : DS} {c : Cal} (h1 : 1 ≤ c.wins.length) (h2 : 1 ≤ c.room.length) (h3 : c.wins.length ≤ 100) (h4 : c.room.length ≤ 100) (h5 : c.team.length ≤ 100) : FunM Try.prog 21 [ptr b 0, calP c] (ex fun c : Cal => fact True (calP c)) (diceS b s) (fun _ => diceEx 61 b) := by
  refine FunM.of Try.func21 rfl rfl (by exact Nat.le_of_ble_eq_true rfl) fun M0 w0 S rs M1 w1 => ?_
  obtain ⟨_ | ⟨w, ws⟩, team, _ | ⟨r, rr⟩⟩ := c
  all_goals first | (exfalso; simp at h1; done) | (exfalso; simp at h2; done) | skip
  have k3 : ws.length + 1 ≤ 100 := h3
  have k4 : rr.length + 1 ≤ 100 := h4
  have k5 : team.length ≤ 100 := h5
  refine Tr.seq ?_
  refine Tr.regT ?_
  refine TO.boxm rfl rfl (by decide) rfl (VL.le (vl rfl) (agg_cellsP _)) (fun b1 => ?_)
  refine TO.alloc rfl rfl (by decide) rfl z27 zo27 (fun b2 => ?_)
  refine TO.nil ?_
  refine Fin.go ?_
  refine Tr.seq ?_
  refine Tr.regT ?_
  refine TO.op rfl rfl (by decide) (okp_fieldAddr rfl fo27_0 (vl rfl)) ?_
  refine TO.rd 1 rfl rfl rfl (by decide) (rd_load1 rfl one25 (vl rfl) rfl) ?_
  refine TO.pad ?_
  refine TO.efs 0 rfl rfl (by decide) (ef_appnew rfl rfl (by decide) rfl Try.underlying25 sz45 by45 z45 rfl (by decide) (by decide) (vl rfl) (by simp) (by simp at h3 h4 ⊢; unfold maxLen; omega) (by simp at h3 h4 ⊢; omega)) (fun v1 => ?_)
  refine TO.op rfl rfl (by decide) (okp_fieldAddr rfl fo27_0 (vl rfl)) ?_
  refine TO.ef0 2 rfl rfl (ef_store rfl rfl (vl rfl) (VL.le (vl rfl) (one_cellsP _)) sz25 rfl (by exact Nat.le_of_ble_eq_true rfl) rfl) ?_
  refine TO.nil ?_
  refine Fin.go ?_
  refine Tr.seq ?_
  refine Tr.regT ?_
  refine TO.op rfl rfl (by decide) (okp_fieldAddr rfl fo27_2 (vl rfl)) ?_
  refine TO.rd 2 rfl rfl rfl (by decide) (rd_load1 rfl one22 (vl rfl) rfl) ?_
  refine TO.pad ?_
  refine TO.efs 0 rfl rfl (by decide) (ef_appnew rfl rfl (by decide) rfl Try.underlying22 sz3 by3 z3 rfl (by decide) (by decide) (vl rfl) (by simp) (by simp at h3 h4 ⊢; unfold maxLen; omega) (by simp at h3 h4 ⊢; omega)) (fun v2 => ?_)
  refine TO.op rfl rfl (by decide) (okp_fieldAddr rfl fo27_2 (vl rfl)) ?_
  refine TO.ef0 3 rfl rfl (ef_store rfl rfl (vl rfl) (VL.le (vl rfl) (one_cellsP _)) sz22 rfl (by exact Nat.le_of_ble_eq_true rfl) rfl) ?_
  refine TO.nil ?_
  refine Fin.go ?_
  refine Tr.seq ?_
  refine Tr.seq ?_
  refine Tr.openM 0 rfl fun b3 cap3 sp3 hv3 hg3 hm3 hs3 => ?_
  subst hv3
  refine Tr.openM 1 rfl fun b4 cap4 sp4 hv4 hg4 hm4 hs4 => ?_
  subst hv4
  refine Tr.regT ?_
  refine TO.op rfl rfl (by decide) (ok_move rfl (vl rfl)) ?_
  refine TO.efc 4 rfl rfl (by decide) (ef_callc rfl rfl (by decide) rfl (w_DNext (by omega) (by omega)) ⟨⟨_, rfl, Pr.le_refl _⟩, ⟨_, rfl, Pr.le_refl _⟩, trivial⟩) ?_
  refine TO.nil ?_
  refine Fin.go ?_
  refine Tr.block ?_
  refine Tr.seq ?_
  refine Tr.reg0 ?_
  refine Ch.op rfl rfl (by decide) (ok_int rfl (vl rfl) (vl rfl) rfl) ?_
  refine Ch.op rfl rfl (by decide) (ok_assign rfl (vl rfl)) ?_
  refine Ch.nil ?_
  refine Fin.go ?_
  refine Tr.weak [(0, _), (3, _), (4, _), (14, _), (15, _)] ⟨⟨_, rfl, Pr.le_refl _⟩, ⟨_, rfl, Pr.le_refl _⟩, ⟨_, rfl, Pr.le_refl _⟩, ⟨_, rfl, Pr.le_refl _⟩, ⟨_, rfl, Pr.le_refl _⟩, trivial⟩ ?_
  refine Tr.cond rfl (fun h1 => ?_) (fun h1 => ?_)
  ·
    have q1 := Nrm.nrm h1
    refine Tr.regX mixed [none, some (0, 3, false, 0), none, none, some (0, 4, true, 0), none, some (0, 0, true, 0)] (by kernel_rfl) ?_
    refine Cx.op rfl rfl (by decide) (fun _ => okp_fieldAddr rfl fo27_2 (vl rfl)) ?_
    refine Cx.rd 3 rfl rfl rfl (by decide) (rd_load1 rfl one22 (vl rfl) rfl) ?_
    refine Cx.op rfl rfl (by decide) (fun _ => ok_move rfl (vl rfl)) ?_
    refine Cx.op rfl rfl (by decide) (fun _ => ok_buildSlice (xs := [.const (.int .i64 (-1)), .const (.int .i64 (25)), .const (.int .i64 (24)), .const (.int .i64 (0))]) (rows := [[_], [_], [_], [_]]) rfl rfl Try.underlying22 sz3 z3 rfl (by decide) ⟨⟨(by exact rfl), (VL.le (vl rfl) (one_cellsP _))⟩, ⟨⟨(by exact rfl), (VL.le (vl rfl) (one_cellsP _))⟩, ⟨⟨(by exact rfl), (VL.le (vl rfl) (one_cellsP _))⟩, ⟨⟨(by exact rfl), (VL.le (vl rfl) (one_cellsP _))⟩, trivial⟩⟩⟩⟩ (by decide)) ?_
    refine Cx.ef 4 rfl rfl (by decide) (ef_callc rfl rfl (by decide) rfl (w_DOf (l := [-1, 25, 24, 0]) (by simp) (by simp)) ⟨⟨_, rfl, Pr.le_refl _⟩, ⟨_, rfl, full_le _ _⟩, trivial⟩) ?_
    refine Cx.op rfl rfl (by decide) (fun _ => okp_indexSl rfl Try.underlying22 sz3 ⟨_, rfl, andIs_is _ _⟩ (vl rfl) (by omega) (by simp)) ?_
    refine Cx.ef0 0 rfl rfl (ef_store rfl rfl (vl rfl) (VL.le (vl rfl) (one_cellsP _)) sz3 rfl (by exact Nat.le_of_ble_eq_true rfl) rfl) ?_
    refine Cx.nil ⟨rfl, ?_⟩
    refine FinX.done (AllC.cons (AllC.cons (AllC.cons (AllC.cons (AllC.cons (AllC.cons (AllC.map _))))))) ?_
    refine Fin.block ?_
    refine Fin.go ?_
    refine Tr.seq ?_
    refine Tr.frzC (cap := cap4) (sz := 3) ((w :: ws).map encWin) 1 3 0 rfl rfl (by decide) rfl (by first | exact andIs_is _ _ | exact Pr.le_refl _) (by simp [encWin]) (by simpa using hg4) hm4 (by simpa using hs4) rfl ?_
    refine Tr.frzC (cap := cap3) (sz := 1) ((s.adv.of [-1, 25, 24, 0] :: rr).map fun n => [int n]) 0 3 2 rfl rfl (by decide) rfl (by first | exact andIs_is _ _ | exact Pr.le_refl _) (by simp [encWin]) (by simpa using hg3) hm3 (by simpa using hs3) rfl ?_
    refine Tr.regT ?_
    refine TO.rd 3 rfl rfl rfl (by decide) (rd_loadA rfl agg27 sz27 (vl rfl) rfl rfl) ?_
    refine TO.store_all 2 rfl rfl rfl (vl rfl) (VL.le (vl rfl) (agg_cellsP _)) rfl sz27 rfl rfl ?_
    refine TO.nil ?_
    refine Fin.go ?_
    refine Tr.drop 3 ?_
    refine Tr.ret ?_
    refine Fin.closeD 3 _ rfl rfl ?_
    refine Fin.retY1 [_, _, _] rfl (RVal.cell 2 rfl rfl agg27 sz27 rfl (Pr.le_refl _)) ?_ (fun _ _ _ _ => rfl)
    · exact ex_in ⟨w :: ws, team, s.adv.of [-1, 25, 24, 0] :: rr⟩ (fact_in trivial (agg_le ⟨andIs_le _ _, Pr.le_refl _, andIs_le _ _, trivial⟩))
  ·
    have q1 := Nrm.nrm h1
    refine Tr.seq ?_
    refine Tr.reg0 ?_
    refine Ch.op rfl rfl (by decide) (ok_int rfl (vl rfl) (vl rfl) rfl) ?_
    refine Ch.op rfl rfl (by decide) (ok_assign rfl (vl rfl)) ?_
    refine Ch.nil ?_
    refine Fin.go ?_
    refine Tr.cond rfl (fun h2 => ?_) (fun h2 => ?_)
    ·
      have q2 := Nrm.nrm h2
      refine Tr.regX mixed [none, some (0, 3, false, 0), none, none, some (0, 4, true, 0), none, none, some (0, 4, true, 0), none, none, none, some (0, 1, true, 0)] (by kernel_rfl) ?_
      refine Cx.op rfl rfl (by decide) (fun _ => okp_fieldAddr rfl fo27_0 (vl rfl)) ?_
      refine Cx.rd 3 rfl rfl rfl (by decide) (rd_load1 rfl one25 (vl rfl) rfl) ?_
      refine Cx.op rfl rfl (by decide) (fun _ => ok_move rfl (vl rfl)) ?_
      refine Cx.op rfl rfl (by decide) (fun _ => ok_buildSlice (xs := [.const (.int .i64 (-1)), .const (.int .i64 (5)), .const (.int .i64 (40000))]) (rows := [[_], [_], [_]]) rfl rfl Try.underlying22 sz3 z3 rfl (by decide) ⟨⟨(by exact rfl), (VL.le (vl rfl) (one_cellsP _))⟩, ⟨⟨(by exact rfl), (VL.le (vl rfl) (one_cellsP _))⟩, ⟨⟨(by exact rfl), (VL.le (vl rfl) (one_cellsP _))⟩, trivial⟩⟩⟩ (by decide)) ?_
      refine Cx.ef 4 rfl rfl (by decide) (ef_callc rfl rfl (by decide) rfl (w_DOf (l := [-1, 5, 40000]) (by simp) (by simp)) ⟨⟨_, rfl, Pr.le_refl _⟩, ⟨_, rfl, full_le _ _⟩, trivial⟩) ?_
      refine Cx.op rfl rfl (by decide) (fun _ => ok_move rfl (vl rfl)) ?_
      refine Cx.op rfl rfl (by decide) (fun _ => ok_buildSlice (xs := [.const (.int .i64 (5)), .const (.int .i64 (40001)), .const (.int .i64 (40002))]) (rows := [[_], [_], [_]]) rfl rfl Try.underlying22 sz3 z3 rfl (by decide) ⟨⟨(by exact rfl), (VL.le (vl rfl) (one_cellsP _))⟩, ⟨⟨(by exact rfl), (VL.le (vl rfl) (one_cellsP _))⟩, ⟨⟨(by exact rfl), (VL.le (vl rfl) (one_cellsP _))⟩, trivial⟩⟩⟩ (by decide)) ?_
      refine Cx.ef 4 rfl rfl (by decide) (ef_callc rfl rfl (by decide) rfl (w_DOf (l := [5, 40001, 40002]) (by simp) (by simp)) ⟨⟨_, rfl, Pr.le_refl _⟩, ⟨_, rfl, full_le _ _⟩, trivial⟩) ?_
      refine Cx.op rfl rfl (by decide) (fun _ => ok_build (rows := [(0, [_]), (1, [_])]) rfl bl43 zo43 ⟨⟨rfl, (VL.le (vl rfl) (one_cellsP _))⟩, ⟨⟨rfl, (VL.le (vl rfl) (one_cellsP _))⟩, trivial⟩⟩ rfl) ?_
      refine Cx.op rfl rfl (by decide) (fun _ => okp_indexSl rfl Try.underlying25 sz45 ⟨_, rfl, andIs_is _ _⟩ (vl rfl) (by omega) (by simp)) ?_
      refine Cx.op rfl rfl (by decide) (fun _ => okp_fieldAddr rfl fo45_0 (vl rfl)) ?_
      refine Cx.ef0 1 rfl rfl (ef_store rfl rfl (vl rfl) (VL.le (vl rfl) (agg_cellsP _)) sz43 rfl (by exact Nat.le_of_ble_eq_true rfl) rfl) ?_
      refine Cx.nil ⟨rfl, ?_⟩
      refine FinX.done (AllC.cons (AllC.cons (AllC.cons (AllC.cons (AllC.cons (AllC.cons (AllC.map _))))))) ?_
      refine Fin.block ?_
      refine Fin.go ?_
      refine Tr.weak [(3, _), (4, _)] ⟨⟨_, rfl, Pr.le_refl _⟩, ⟨_, rfl, Pr.le_refl _⟩, trivial⟩ ?_
      refine Tr.seq ?_
      refine Tr.frzC (cap := cap4) (sz := 3) ((Win.mk (s.adv.of [-1, 5, 40000]) (s.adv.adv.of [5, 40001, 40002]) w.teams :: ws).map encWin) 1 3 0 rfl rfl (by decide) rfl (by first | exact andIs_is _ _ | exact Pr.le_refl _) (by simp [encWin]) (by simpa using hg4) hm4 (by simpa using hs4) rfl ?_
      refine Tr.frzC (cap := cap3) (sz := 1) ((r :: rr).map fun n => [int n]) 0 3 2 rfl rfl (by decide) rfl (by first | exact andIs_is _ _ | exact Pr.le_refl _) (by simp [encWin]) (by simpa using hg3) hm3 (by simpa using hs3) rfl ?_
      refine Tr.regT ?_
      refine TO.rd 3 rfl rfl rfl (by decide) (rd_loadA rfl agg27 sz27 (vl rfl) rfl rfl) ?_
      refine TO.store_all 2 rfl rfl rfl (vl rfl) (VL.le (vl rfl) (agg_cellsP _)) rfl sz27 rfl rfl ?_
      refine TO.nil ?_
      refine Fin.go ?_
      refine Tr.drop 3 ?_
      refine Tr.ret ?_
      refine Fin.closeD 3 _ rfl rfl ?_
      refine Fin.retY1 [_, _, _] rfl (RVal.cell 2 rfl rfl agg27 sz27 rfl (Pr.le_refl _)) ?_ (fun _ _ _ _ => rfl)
      · exact ex_in ⟨Win.mk (s.adv.of [-1, 5, 40000]) (s.adv.adv.of [5, 40001, 40002]) w.teams :: ws, team, r :: rr⟩ (fact_in trivial (agg_le ⟨andIs_le _ _, Pr.le_refl _, andIs_le _ _, trivial⟩))
    ·
      have q2 := Nrm.nrm h2
      refine Tr.seq ?_
      refine Tr.reg0 ?_
      refine Ch.op rfl rfl (by decide) (ok_int rfl (vl rfl) (vl rfl) rfl) ?_
      refine Ch.op rfl rfl (by decide) (ok_assign rfl (vl rfl)) ?_
      refine Ch.nil ?_
      refine Fin.go ?_
      refine Tr.cond rfl (fun h3 => ?_) (fun h3 => ?_)
      ·
        have q3 := Nrm.nrm h3
        have hv := s.adv.val_in (n := 4) (by omega)
        obtain ⟨tl, htl⟩ := at_ (l := oddTeams) (k := (s.adv.val 4).toNat) (by have : oddTeams.length = 4 := rfl; omega)
        refine Tr.regX mixed [none, some (0, 3, false, 0), none, none, none, none, none, none, some (0, 4, true, 0), none, none, none, none, some (0, 1, true, 0)] (by kernel_rfl) ?_
        refine Cx.op rfl rfl (by decide) (fun _ => okp_fieldAddr rfl fo27_0 (vl rfl)) ?_
        refine Cx.rd 3 rfl rfl rfl (by decide) (rd_load1 rfl one25 (vl rfl) rfl) ?_
        refine Cx.op rfl rfl (by decide) (fun _ => ok_buildSlice (xs := [.const (.int .i64 (1)), .const (.int .i64 (0))]) (rows := [[_], [_]]) rfl rfl Try.underlying22 sz3 z3 rfl (by decide) ⟨⟨(by exact rfl), (VL.le (vl rfl) (one_cellsP _))⟩, ⟨⟨(by exact rfl), (VL.le (vl rfl) (one_cellsP _))⟩, trivial⟩⟩ (by decide)) ?_
        refine Cx.op rfl rfl (by decide) (fun _ => ok_buildSlice (xs := [.const (.int .i64 (0)), .const (.int .i64 (0))]) (rows := [[_], [_]]) rfl rfl Try.underlying22 sz3 z3 rfl (by decide) ⟨⟨(by exact rfl), (VL.le (vl rfl) (one_cellsP _))⟩, ⟨⟨(by exact rfl), (VL.le (vl rfl) (one_cellsP _))⟩, trivial⟩⟩ (by decide)) ?_
        refine Cx.op rfl rfl (by decide) (fun _ => ok_buildSlice (xs := [.const (.int .i64 (2))]) (rows := [[_]]) rfl rfl Try.underlying22 sz3 z3 rfl (by decide) ⟨⟨(by exact rfl), (VL.le (vl rfl) (one_cellsP _))⟩, trivial⟩ (by decide)) ?_
        refine Cx.op rfl rfl (by decide) (fun _ => ok_buildSlice (xs := [.const (.int .i64 (-1))]) (rows := [[_]]) rfl rfl Try.underlying22 sz3 z3 rfl (by decide) ⟨⟨(by exact rfl), (VL.le (vl rfl) (one_cellsP _))⟩, trivial⟩ (by decide)) ?_
        refine Cx.op rfl rfl (by decide) (fun _ => ok_buildSlice (xs := [.tmp 40, .tmp 41, .tmp 42, .tmp 43]) (rows := [[_], [_], [_], [_]]) rfl rfl Try.underlying32 sz22 z22 rfl (by decide) ⟨⟨(by exact rfl), ⟨_, rfl, Pr.le_trans (full_le _ _) (one_cellsP _)⟩⟩, ⟨⟨(by exact rfl), ⟨_, rfl, Pr.le_trans (full_le _ _) (one_cellsP _)⟩⟩, ⟨⟨(by exact rfl), ⟨_, rfl, Pr.le_trans (full_le _ _) (one_cellsP _)⟩⟩, ⟨⟨(by exact rfl), ⟨_, rfl, Pr.le_trans (full_le _ _) (one_cellsP _)⟩⟩, trivial⟩⟩⟩⟩ (by decide)) ?_
        refine Cx.op rfl rfl (by decide) (fun _ => ok_move rfl (vl rfl)) ?_
        refine Cx.ef 4 rfl rfl (by decide) (ef_callc rfl rfl (by decide) rfl (w_DNext (by omega) (by omega)) ⟨⟨_, rfl, Pr.le_refl _⟩, ⟨_, rfl, Pr.le_refl _⟩, trivial⟩) ?_
        refine Cx.op rfl rfl (by decide) (fun _ => ok_indexAddr rfl Try.underlying32 sz22 ⟨_, rfl, full_le _ _⟩ (vl rfl) (by omega) (row_atI (l := oddTeams) (f := fun l => [ints l]) htl)) ?_
        refine Cx.op rfl rfl (by decide) (fun _ => ok_load1 rfl one22 (vl rfl)) ?_
        refine Cx.op rfl rfl (by decide) (fun _ => okp_indexSl rfl Try.underlying25 sz45 ⟨_, rfl, andIs_is _ _⟩ (vl rfl) (by omega) (by simp)) ?_
        refine Cx.op rfl rfl (by decide) (fun _ => okp_fieldAddr rfl fo45_1 (vl rfl)) ?_
        refine Cx.ef0 1 rfl rfl (ef_store rfl rfl (vl rfl) (VL.le (vl rfl) (one_cellsP _)) sz22 rfl (by exact Nat.le_of_ble_eq_true rfl) rfl) ?_
        refine Cx.nil ⟨rfl, ?_⟩
        refine FinX.done (AllC.cons (AllC.cons (AllC.cons (AllC.cons (AllC.cons (AllC.cons (AllC.map _))))))) ?_
        refine Fin.block ?_
        refine Fin.go ?_
        refine Tr.weak [(3, _), (4, _)] ⟨⟨_, rfl, Pr.le_refl _⟩, ⟨_, rfl, Pr.le_refl _⟩, trivial⟩ ?_
        refine Tr.seq ?_
        refine Tr.frzC (cap := cap4) (sz := 3) ((Win.mk w.lo w.hi tl :: ws).map encWin) 1 3 0 rfl rfl (by decide) rfl (by first | exact andIs_is _ _ | exact Pr.le_refl _) (by simp [encWin]) (by simpa using hg4) hm4 (by simpa using hs4) rfl ?_
        refine Tr.frzC (cap := cap3) (sz := 1) ((r :: rr).map fun n => [int n]) 0 3 2 rfl rfl (by decide) rfl (by first | exact andIs_is _ _ | exact Pr.le_refl _) (by simp [encWin]) (by simpa using hg3) hm3 (by simpa using hs3) rfl ?_
        refine Tr.regT ?_
        refine TO.rd 3 rfl rfl rfl (by decide) (rd_loadA rfl agg27 sz27 (vl rfl) rfl rfl) ?_
        refine TO.store_all 2 rfl rfl rfl (vl rfl) (VL.le (vl rfl) (agg_cellsP _)) rfl sz27 rfl rfl ?_
        refine TO.nil ?_
        refine Fin.go ?_
        refine Tr.drop 3 ?_
        refine Tr.ret ?_
        refine Fin.closeD 3 _ rfl rfl ?_
        refine Fin.retY1 [_, _, _] rfl (RVal.cell 2 rfl rfl agg27 sz27 rfl (Pr.le_refl _)) ?_ (fun _ _ _ _ => rfl)
        · exact ex_in ⟨Win.mk w.lo w.hi tl :: ws, team, r :: rr⟩ (fact_in trivial (agg_le ⟨andIs_le _ _, Pr.le_refl _, andIs_le _ _, trivial⟩))
      ·
        have q3 := Nrm.nrm h3
        refine Tr.seq ?_
        refine Tr.reg0 ?_
        refine Ch.op rfl rfl (by decide) (ok_int rfl (vl rfl) (vl rfl) rfl) ?_
        refine Ch.op rfl rfl (by decide) (ok_assign rfl (vl rfl)) ?_
        refine Ch.nil ?_
        refine Fin.go ?_
        refine Tr.cond rfl (fun h4 => ?_) (fun h4 => ?_)
        ·
          have q4 := Nrm.nrm h4
          refine Tr.regT ?_
          refine TO.op rfl rfl (by decide) (okp_fieldAddr rfl fo27_1 (vl rfl)) ?_
          refine TO.rd 3 rfl rfl rfl (by decide) (rd_load1 rfl one22 (vl rfl) rfl) ?_
          refine TO.pad ?_
          refine TO.efs 0 rfl rfl (by decide) (ef_append rfl rfl (by decide) rfl Try.underlying22 sz3 by3 z3 rfl (by decide) ⟨_, rfl, nil_slice _⟩ (vl rfl) (by simp only [List.length_map, List.length_append, List.length_cons, List.length_nil]; unfold maxLen; omega) (by simp only [List.length_map, List.length_append, List.length_cons, List.length_nil]; omega) (appR_full (by exact List.Mem.head _) ⟨_, rfl, nil_full 1⟩)) (fun v3 => ?_)
          refine TO.op rfl rfl (by decide) (ok_move rfl (vl rfl)) ?_
          refine TO.op rfl rfl (by decide) (ok_buildSlice (xs := [.const (.int .i64 (0)), .const (.int .i64 (7))]) (rows := [[_], [_]]) rfl rfl Try.underlying22 sz3 z3 rfl (by decide) ⟨⟨(by exact rfl), (VL.le (vl rfl) (one_cellsP _))⟩, ⟨⟨(by exact rfl), (VL.le (vl rfl) (one_cellsP _))⟩, trivial⟩⟩ (by decide)) ?_
          refine TO.efc 5 rfl rfl (by decide) (ef_callc rfl rfl (by decide) rfl (w_DOf (l := [0, 7]) (by simp) (by simp)) ⟨⟨_, rfl, Pr.le_refl _⟩, ⟨_, rfl, full_le _ _⟩, trivial⟩) ?_
          refine TO.op rfl rfl (by decide) (ok_buildSlice (xs := [.tmp 58]) (rows := [[_]]) rfl rfl Try.underlying22 sz3 z3 rfl (by decide) ⟨⟨(by exact rfl), (VL.le (vl rfl) (one_cellsP _))⟩, trivial⟩ (by decide)) ?_
          refine TO.efs 0 rfl rfl (by decide) (ef_append rfl rfl (by decide) rfl Try.underlying22 sz3 by3 z3 rfl (by decide) ⟨_, rfl, andIs_le _ _⟩ ⟨_, rfl, full_le _ _⟩ (by simp only [List.length_map, List.length_append, List.length_cons, List.length_nil]; unfold maxLen; omega) (by simp only [List.length_map, List.length_append, List.length_cons, List.length_nil]; omega) (appR_is (by exact List.Mem.head _) ⟨_, rfl, andIs_is _ _⟩)) (fun v4 => ?_)
          refine TO.op rfl rfl (by decide) (okp_fieldAddr rfl fo27_1 (vl rfl)) ?_
          refine TO.ef0 4 rfl rfl (ef_store rfl rfl (vl rfl) (VL.le (vl rfl) (one_cellsP _)) sz22 rfl (by exact Nat.le_of_ble_eq_true rfl) rfl) ?_
          refine TO.nil ?_
          refine Fin.block ?_
          refine Fin.go ?_
          refine Tr.weak [(3, _), (4, _)] ⟨⟨_, rfl, Pr.le_refl _⟩, ⟨_, rfl, Pr.le_refl _⟩, trivial⟩ ?_
          refine Tr.seq ?_
          refine Tr.frzC (cap := cap4) (sz := 3) ((w :: ws).map encWin) 2 4 0 rfl rfl (by decide) rfl (by first | exact andIs_is _ _ | exact Pr.le_refl _) (by simp [encWin]) (by simpa using hg4) hm4 (by simpa using hs4) rfl ?_
          refine Tr.frzC (cap := cap3) (sz := 1) ((r :: rr).map fun n => [int n]) 1 4 2 rfl rfl (by decide) rfl (by first | exact andIs_is _ _ | exact Pr.le_refl _) (by simp [encWin]) (by simpa using hg3) hm3 (by simpa using hs3) rfl ?_
          refine Tr.regT ?_
          refine TO.rd 4 rfl rfl rfl (by decide) (rd_loadA rfl agg27 sz27 (vl rfl) rfl rfl) ?_
          refine TO.store_all 3 rfl rfl rfl (vl rfl) (VL.le (vl rfl) (agg_cellsP _)) rfl sz27 rfl rfl ?_
          refine TO.nil ?_
          refine Fin.go ?_
          refine Tr.drop 4 ?_
          refine Tr.ret ?_
          refine Fin.closeD 4 _ rfl rfl ?_
          refine Fin.retY1 [_, _, _, _] rfl (RVal.cell 3 rfl rfl agg27 sz27 rfl (Pr.le_refl _)) ?_ (fun _ _ _ _ => rfl)
          · exact ex_in ⟨w :: ws, team ++ [s.adv.of [0, 7]], r :: rr⟩ (fact_in trivial (agg_le ⟨andIs_le _ _, Pr.le_trans (andIs_le _ _) (Pr.le_of_eq (by show slice 1 _ = slice 1 _; simp)), andIs_le _ _, trivial⟩))
        ·
          have q4 := Nrm.nrm h4
          refine Tr.seq ?_
          refine Tr.reg0 ?_
          refine Ch.op rfl rfl (by decide) (ok_int rfl (vl rfl) (vl rfl) rfl) ?_
          refine Ch.op rfl rfl (by decide) (ok_assign rfl (vl rfl)) ?_
          refine Ch.nil ?_
          refine Fin.go ?_
          refine Tr.cond rfl (fun h5 => ?_) (fun h5 => ?_)
          ·
            have q5 := Nrm.nrm h5
            refine Tr.frzC (cap := cap4) (sz := 3) ((w :: ws).map encWin) 1 3 0 rfl rfl (by decide) rfl (by first | exact andIs_is _ _ | exact Pr.le_refl _) (by simp [encWin]) (by simpa using hg4) hm4 (by simpa using hs4) rfl ?_
            refine Tr.pad ?_
            refine Tr.regX mixed [none, some (0, 4, false, 0), none, some (0, 4, false, 0), none, none, none, some (0, 2, true, 71), none, some (0, 4, true, 71)] (by kernel_rfl) ?_
            refine Cx.op rfl rfl (by decide) (fun _ => okp_fieldAddr rfl fo27_0 (vl rfl)) ?_
            refine Cx.rd 4 rfl rfl rfl (by decide) (rd_load1 rfl one25 (vl rfl) rfl) ?_
            refine Cx.op rfl rfl (by decide) (fun _ => okp_fieldAddr rfl fo27_0 (vl rfl)) ?_
            refine Cx.rd 4 rfl rfl rfl (by decide) (rd_load1 rfl one25 (vl rfl) rfl) ?_
            refine Cx.op rfl rfl (by decide) (fun _ => ok_indexAddr rfl Try.underlying25 sz45 ⟨_, rfl, andIs_le _ _⟩ (vl rfl) (by omega) (row_at (l := w :: ws) (k := 0) rfl)) ?_
            refine Cx.op rfl rfl (by decide) (fun _ => ok_loadA rfl agg45 sz45 (vl rfl) rfl rfl) ?_
            refine Cx.op rfl rfl (by decide) (fun _ => ok_buildSlice (xs := [.tmp 69]) (rows := [_]) rfl rfl Try.underlying25 sz45 z45 rfl (by decide) ⟨⟨(by exact rfl), (VL.le (vl rfl) (agg_cellsP _))⟩, trivial⟩ (by decide)) ?_
            refine Cx.ef 2 rfl rfl (by decide) (ef_append rfl rfl (by decide) rfl Try.underlying25 sz45 by45 z45 rfl (by decide) ⟨_, rfl, andIs_le _ _⟩ ⟨_, rfl, full_le _ _⟩ (by simp only [List.length_map, List.length_append, List.length_cons, List.length_nil]; unfold maxLen; omega) (by simp only [List.length_map, List.length_append, List.length_cons, List.length_nil]; omega) (appR_is (by exact List.Mem.head _) ⟨_, rfl, andIs_is _ _⟩)) ?_
            refine Cx.op rfl rfl (by decide) (fun _ => okp_fieldAddr rfl fo27_0 (vl rfl)) ?_
            refine Cx.ef0 4 rfl rfl (ef_storeS rfl rfl rfl (vl rfl) rfl sz25 (by exact Nat.le_of_ble_eq_true rfl)) ?_
            refine Cx.nil ⟨rfl, ?_⟩
            refine FinX.open2 2 4 71 rfl rfl (by decide) rfl (fun v5 => ?_)
            refine FinX.done (AllC.cons (AllC.cons (AllC.cons (AllC.cons (AllC.cons (AllC.cons (AllC.cons (AllC.map _)))))))) ?_
            refine Fin.block ?_
            refine Fin.go ?_
            refine Tr.drop 0 ?_
            refine Tr.weak [(3, _), (4, _)] ⟨⟨_, rfl, Pr.le_refl _⟩, ⟨_, rfl, Pr.le_refl _⟩, trivial⟩ ?_
            refine Tr.seq ?_
            refine Tr.frzC (cap := cap3) (sz := 1) ((r :: rr).map fun n => [int n]) 0 3 2 rfl rfl (by decide) rfl (by first | exact andIs_is _ _ | exact Pr.le_refl _) (by simp [encWin]) (by simpa using hg3) hm3 (by simpa using hs3) rfl ?_
            refine Tr.regT ?_
            refine TO.rd 3 rfl rfl rfl (by decide) (rd_loadA rfl agg27 sz27 (vl rfl) rfl rfl) ?_
            refine TO.store_all 2 rfl rfl rfl (vl rfl) (VL.le (vl rfl) (agg_cellsP _)) rfl sz27 rfl rfl ?_
            refine TO.nil ?_
            refine Fin.go ?_
            refine Tr.drop 3 ?_
            refine Tr.ret ?_
            refine Fin.closeD 3 _ rfl rfl ?_
            refine Fin.retY1 [_, _, _] rfl (RVal.cell 2 rfl rfl agg27 sz27 rfl (Pr.le_refl _)) ?_ (fun _ _ _ _ => rfl)
            · exact ex_in ⟨(w :: ws) ++ [w], team, r :: rr⟩ (fact_in trivial (agg_le ⟨Pr.le_trans (andIs_le _ _) (Pr.le_of_eq (by show slice 3 _ = slice 3 _; rw [List.map_append]; rfl)), Pr.le_refl _, andIs_le _ _, trivial⟩))
          ·
            have q5 := Nrm.nrm h5
            refine Tr.seq ?_
            refine Tr.reg0 ?_
            refine Ch.op rfl rfl (by decide) (ok_int rfl (vl rfl) (vl rfl) rfl) ?_
            refine Ch.op rfl rfl (by decide) (ok_assign rfl (vl rfl)) ?_
            refine Ch.nil ?_
            refine Fin.go ?_
            refine Tr.weak [(3, _), (4, _), (73, _)] ⟨⟨_, rfl, Pr.le_refl _⟩, ⟨_, rfl, Pr.le_refl _⟩, ⟨_, rfl, Pr.le_refl _⟩, trivial⟩ ?_
            refine Tr.cond rfl (fun h6 => ?_) (fun h6 => ?_)
            ·
              have q6 := Nrm.nrm h6
              refine Tr.regT ?_
              refine TO.mkslice rfl rfl (by decide) rfl Try.underlying22 sz3 by3 z3 rfl (vl rfl) (vl rfl) (m := 9) (by decide) (by decide) (fun b5 => ?_)
              refine TO.op rfl rfl (by decide) (okp_fieldAddr rfl fo27_2 (vl rfl)) ?_
              refine TO.ef0 4 rfl rfl (ef_store rfl rfl (vl rfl) (VL.le (vl rfl) (one_cellsP _)) sz22 rfl (by exact Nat.le_of_ble_eq_true rfl) rfl) ?_
              refine TO.nil ?_
              refine Fin.block ?_
              refine Fin.go ?_
              refine Tr.seq ?_
              refine Tr.frzC (cap := cap4) (sz := 3) ((w :: ws).map encWin) 2 4 0 rfl rfl (by decide) rfl (by first | exact andIs_is _ _ | exact Pr.le_refl _) (by simp [encWin]) (by simpa using hg4) hm4 (by simpa using hs4) rfl ?_
              refine Tr.frzC (cap := 9) (sz := 1) (qs := []) ((List.replicate 9 (0 : Int)).map fun n => [int n]) 0 4 2 rfl rfl (by decide) rfl (Pr.le_refl _) (by simp) (by decide) (by decide) rfl rfl ?_
              refine Tr.regT ?_
              refine TO.rd 4 rfl rfl rfl (by decide) (rd_loadA rfl agg27 sz27 (vl rfl) rfl rfl) ?_
              refine TO.store_all 3 rfl rfl rfl (vl rfl) (VL.le (vl rfl) (agg_cellsP _)) rfl sz27 rfl rfl ?_
              refine TO.nil ?_
              refine Fin.go ?_
              refine Tr.drop 4 ?_
              refine Tr.ret ?_
              refine Fin.closeD 4 _ rfl rfl ?_
              refine Fin.retY1 [_, _, _, _] rfl (RVal.cell 3 rfl rfl agg27 sz27 rfl (Pr.le_refl _)) ?_ (fun _ _ _ _ => rfl)
              · exact ex_in ⟨w :: ws, team, List.replicate 9 0⟩ (fact_in trivial (agg_le ⟨andIs_le _ _, Pr.le_refl _, andIs_le _ _, trivial⟩))
            ·
              have q6 := Nrm.nrm h6
              refine Tr.skip ?_
              refine Fin.block ?_
              refine Fin.go ?_
              refine Tr.seq ?_
              refine Tr.frzC (cap := cap4) (sz := 3) ((w :: ws).map encWin) 1 3 0 rfl rfl (by decide) rfl (by first | exact andIs_is _ _ | exact Pr.le_refl _) (by simp [encWin]) (by simpa using hg4) hm4 (by simpa using hs4) rfl ?_
              refine Tr.frzC (cap := cap3) (sz := 1) ((r :: rr).map fun n => [int n]) 0 3 2 rfl rfl (by decide) rfl (by first | exact andIs_is _ _ | exact Pr.le_refl _) (by simp [encWin]) (by simpa using hg3) hm3 (by simpa using hs3) rfl ?_
              refine Tr.regT ?_
              refine TO.rd 3 rfl rfl rfl (by decide) (rd_loadA rfl agg27 sz27 (vl rfl) rfl rfl) ?_
              refine TO.store_all 2 rfl rfl rfl (vl rfl) (VL.le (vl rfl) (agg_cellsP _)) rfl sz27 rfl rfl ?_
              refine TO.nil ?_
              refine Fin.go ?_
              refine Tr.drop 3 ?_
              refine Tr.ret ?_
              refine Fin.closeD 3 _ rfl rfl ?_
              refine Fin.retY1 [_, _, _] rfl (RVal.cell 2 rfl rfl agg27 sz27 rfl (Pr.le_refl _)) ?_ (fun _ _ _ _ => rfl)
              · exact ex_in ⟨w :: ws, team, r :: rr⟩ (fact_in trivial (agg_le ⟨andIs_le _ _, Pr.le_refl _, andIs_le _ _, trivial⟩))
theorem e_odd : Entry Try.prog 21 := ⟨_, Try.func21, rfl, rfl⟩
end Go.Proofs.Ytacifhfelijekaa
