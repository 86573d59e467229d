/-
  What the functions named below compute, proved from their text; printed by a program of our own.
-/
import Derived.Test.YtacifhfelijekaaTypes
import Derived.Test.YtacifhfelijekaaSlices
import Derived.Test.YtacifhfelijekaaWin1
import Derived.Test.YtacifhfelijekaaWin2
import Derived.Test.YtacifhfelijekaaWin3
import Derived.Test.YtacifhfelijekaaDice
namespace Go.Proofs.Ytacifhfelijekaa
open Go Go.RowKit Cp

/-- A calendar that is as it should be, for n endpoints, with teams 0 and 1. -/
structure GoodCal (c : Cal) (n : Nat) : Prop where
  own : c.own = 0
  room : c.room.length = 2
  team : c.team.length = n
  top : ∀ w ∈ c.wins, w.hi < 200
  some : 1 ≤ c.wins.length
def goodWin (w : Win) : Prop := 0 ≤ w.lo ∧ w.lo < w.hi ∧ w.hi < 200 ∧ OrdT w.teams ∧ ∀ t ∈ w.teams, 0 ≤ t ∧ t < 2
def calTeams : List (List Int) := [[0, 1], [0, 1], [0], [1], []]
theorem calTeams_ok {l : List Int} (h : l ∈ calTeams) : OrdT l ∧ ∀ t ∈ l, 0 ≤ t ∧ t < 2 := by
  have h01 : OrdT [0, 1] := by
    intro j a b h1 h2
    match j with
    | 0 => simp at h1 h2; subst h1 h2; decide
    | j + 1 => simp at h2
  have h1 : ∀ x : Int, OrdT [x] := by intro x j a b _ h2; simp at h2
  have h0 : OrdT [] := by intro j a b _ h2; simp at h2
  simp [calTeams] at h
  rcases h with rfl | rfl | rfl | rfl
  · exact ⟨h01, by simp⟩
  · exact ⟨h1 _, by simp⟩
  · exact ⟨h1 _, by simp⟩
  · exact ⟨h0, by simp⟩
theorem ordW_snoc {ws : List Win} {w : Win} (h : OrdW ws) (hw : ∀ x ∈ ws, x.hi ≤ w.lo) : OrdW (ws ++ [w]) := by
  intro j a b h1 h2
  rcases Nat.lt_or_ge (j + 1) ws.length with hj | hj
  · rw [List.getElem?_append_left (by omega)] at h1
    rw [List.getElem?_append_left hj] at h2
    exact h j a b h1 h2
  · rcases Nat.eq_or_lt_of_le hj with hj | hj
    · rw [List.getElem?_append_left (by omega)] at h1
      rw [List.getElem?_append_right (by omega), ← hj, Nat.sub_self] at h2
      simp at h2; subst h2
      exact hw a (List.mem_of_getElem? h1)
    · rw [List.getElem?_eq_none (by simp; omega)] at h2; cases h2
theorem goodCal {ws : List Win} {l room : List Int} (h0 : 1 ≤ ws.length) (h1 : ws.length ≤ 32) (h2 : OrdW ws) (h3 : ∀ w ∈ ws, goodWin w) (h4 : ∀ t ∈ l, 0 ≤ t ∧ t < 2) (h5 : room.length = 2) (h6 : ∀ r ∈ room, 0 ≤ r ∧ r ≤ 24) : GoodCal ⟨ws, l, room⟩ l.length := by
  have has : ∀ t : Int, 0 ≤ t ∧ t < 2 → Cal.has (Cal.mk ws l room) t = true := by
    intro t ht; unfold Cal.has; simp [h5]; omega
  refine ⟨?_, h5, rfl, fun w hw => (h3 w hw).2.2.1, h0⟩
  unfold Cal.own Cal.check
  rw [if_neg (by simp only [h5]; omega), if_neg, if_neg, if_neg, if_neg, if_neg]
  · rintro (h | h)
    · exact h rfl
    · obtain ⟨t, ht, h⟩ := List.any_eq_true.1 h
      simp [has t (h4 t ht)] at h
  · intro h
    obtain ⟨w, hw, h⟩ := List.any_eq_true.1 h
    obtain ⟨t, ht, h⟩ := List.any_eq_true.1 h
    simp [has t ((h3 w hw).2.2.2.2 t ht)] at h
  · exact not_not_intro ⟨h2, fun w hw => (h3 w hw).2.2.2.1⟩
  · intro h
    obtain ⟨w, hw, h⟩ := List.any_eq_true.1 h
    have := h3 w hw
    unfold goodWin at this
    simp [badWin] at h
    omega
  · intro h
    obtain ⟨r, hr, h⟩ := List.any_eq_true.1 h
    have := h6 r hr
    simp [badRoom] at h
    omega
theorem ints_succ' (l : List Int) (x : Int) : (l.map fun n => [int n]) ++ [[int x]] = (l ++ [x]).map fun n => [int n] := by rw [List.map_append]; rfl
theorem wins_succ (l : List Win) (a b : Int) (t : List Int) : (l.map encWin) ++ [[int a, int b, ints t]] = (l ++ [Win.mk a b t]).map encWin := by rw [List.map_append]; rfl
theorem all_snoc {β : Type} {p : β → Prop} {l : List β} {x : β} (h : ∀ y ∈ l, p y) (hx : p x) : ∀ y ∈ l ++ [x], p y := by
  intro y hy
  rcases List.mem_append.1 hy with hy | hy
  · exact h y hy
  · rw [List.mem_singleton.1 hy]; exact hx

theorem w_Has {l : List Int} {n : Int}  : Fun Try.prog 20 [ints l, int n] (bool (l.any fun x => n == x)) := by
  refine Fun.of Try.func20 rfl rfl (by exact Nat.le_of_ble_eq_true rfl) fun M0 w0 => ?_
  refine Tr.lenm 0 rfl fun hlm_0 => ?_
  refine Tr.seq ?_
  refine Tr.reg0 ?_
  refine Ch.op rfl rfl (by decide) (ok_assign rfl (vl rfl)) ?_
  refine Ch.nil ?_
  refine Fin.go ?_
  refine Tr.seq ?_
  refine Tr.seq ?_
  refine Tr.reg0 ?_
  refine Ch.op rfl rfl (by decide) (ok_move rfl (vl rfl)) ?_
  first
    | refine Ch.op rfl rfl (by decide) (ok_lenm rfl Try.underlying22 (vl rfl)) ?_
    | refine Ch.op rfl rfl (by decide) (ok_len rfl Try.underlying22 (vl rfl)) ?_
  refine Ch.op rfl rfl (by decide) (ok_move rfl (vl rfl)) ?_
  refine Ch.nil ?_
  refine Fin.go ?_
  refine Tr.block ?_
  refine Tr.loopw [(1, _), (7, _), (8, _)] ⟨⟨_, rfl, Pr.le_refl _⟩, ⟨_, rfl, Pr.le_refl _⟩, ⟨_, rfl, Pr.le_refl _⟩, trivial⟩ (fun k : Nat => [(9, int ((k : Nat) : Int))]) (fun k : Nat => k ≤ (l).length ∧ (∀ j y, j < k → l[j]? = some y → (n == y) = false)) (fun k : Nat => (l).length - k) 0 (⟨Nat.zero_le _, fun j y hj => absurd hj (by omega)⟩) ⟨⟨_, rfl, Pr.le_refl _⟩, trivial⟩ ?_
  rintro k ⟨hle_k, hinv_k⟩
  refine Tr.seq ?_
  refine Tr.reg0 ?_
  refine Ch.op rfl rfl (by decide) (ok_int rfl (vl rfl) (vl rfl) rfl) ?_
  refine Ch.nil ?_
  refine Fin.go ?_
  refine Tr.seq ?_
  refine Tr.cond rfl (fun h1 => ?_) (fun h1 => ?_)
  ·
    have q1 := Nrm.nrm h1
    have hk_k : k < (l).length := lt_of_dec h1
    obtain ⟨x, hx_k⟩ := at_ hk_k
    refine Tr.skip ?_
    refine Fin.go ?_
    refine Tr.seq ?_
    refine Tr.block ?_
    refine Tr.seq ?_
    refine Tr.reg0 ?_
    refine Ch.op rfl rfl (by decide) (ok_indexAddr rfl Try.underlying22 sz3 (vl rfl) (vl rfl) (by omega) (by first | exact row_at (by assumption) | exact row_atI (by assumption) | assumption)) ?_
    refine Ch.op rfl rfl (by decide) (ok_load1 rfl one3 (vl rfl)) ?_
    refine Ch.op rfl rfl (by decide) (ok_assign rfl (vl rfl)) ?_
    refine Ch.nil ?_
    refine Fin.go ?_
    refine Tr.seq ?_
    refine Tr.reg0 ?_
    refine Ch.op rfl rfl (by decide) (ok_move rfl (vl rfl)) ?_
    refine Ch.op rfl rfl (by decide) (ok_move rfl (vl rfl)) ?_
    refine Ch.op rfl rfl (by decide) (ok_int rfl (vl rfl) (vl rfl) rfl) ?_
    refine Ch.nil ?_
    refine Fin.go ?_
    refine Tr.cond rfl (fun h2 => ?_) (fun h2 => ?_)
    ·
      have q2 := Nrm.nrm h2
      refine Tr.seq ?_
      refine Tr.reg0 ?_
      refine Ch.op rfl rfl (by decide) (ok_assign rfl (vl rfl)) ?_
      refine Ch.nil ?_
      refine Fin.go ?_
      refine Tr.ret ?_
      refine Fin.block_ret ?_
      refine Fin.then_ret ?_
      refine Fin.then_ret ?_
      refine Fin.block_ret ?_
      refine Fin.then_ret ?_
      refine Fin.ret1 rfl (OutW.bse _ _) rfl ?_
      · refine bool_eq ?_; symm; rw [List.any_eq_true]; exact ⟨x, List.mem_of_getElem? hx_k, by simp_all⟩
    ·
      have q2 := Nrm.nrm h2
      refine Tr.skip ?_
      refine Fin.block ?_
      refine Fin.go ?_
      refine Tr.reg0 ?_
      first
        | (refine Ch.op rfl rfl (by decide) (ok_add rfl (vl rfl) (vl rfl) ?hin) ?_; case hin => unfold InI; omega)
        | refine Ch.op rfl rfl (by decide) (ok_int rfl (vl rfl) (vl rfl) rfl) ?_
      refine Ch.op rfl rfl (by decide) (ok_move rfl (vl rfl)) ?_
      refine Ch.nil ?_
      exact Fin.fam_same (k + 1) ⟨⟨hk_k, step_no (p := fun x => n == x) hx_k (by simp_all; omega) hinv_k⟩, by omega⟩ ⟨⟨_, rfl, int_succ k⟩, ⟨_, rfl, Pr.le_refl _⟩, ⟨_, rfl, Pr.le_refl _⟩, ⟨_, rfl, Pr.le_refl _⟩, trivial⟩
  ·
    have q1 := Nrm.nrm h1
    have he_k : k = (l).length := by have := ge_of_dec h1; omega
    subst he_k
    refine Tr.exit ?_
    refine Fin.then_exit ?_
    refine Fin.then_exit ?_
    refine Fin.block_here ?_
    refine Fin.go ?_
    refine Tr.seq ?_
    refine Tr.reg0 ?_
    refine Ch.op rfl rfl (by decide) (ok_assign rfl (vl rfl)) ?_
    refine Ch.nil ?_
    refine Fin.go ?_
    refine Tr.ret ?_
    refine Fin.ret1 rfl (OutW.bse _ _) rfl ?_
    · refine bool_eq ?_; symm; rw [List.any_eq_false]; intro y hy; obtain ⟨j, hj⟩ := List.mem_iff_getElem?.1 hy; have := hinv_k j y (by rcases Nat.lt_or_ge j l.length with h | h; exact h; rw [List.getElem?_eq_none h] at hj; cases hj) hj; simpa using this
theorem e_Has : Entry Try.prog 20 := ⟨_, Try.func20, rfl, rfl⟩
set_option maxHeartbeats 400000 in
theorem w_Calendar {b : Nat} {s : DS} {n : Nat} (hn : n ≤ 1000) : FunM Try.prog 17 [ptr b 0, int ((n : Nat) : Int)] (ex fun c : Cal => fact (GoodCal c n) (calP c)) (diceS b s) (fun _ => diceEx 61 b) := by
  refine FunM.of Try.func17 rfl rfl (by exact Nat.le_of_ble_eq_true rfl) fun M0 w0 S rs M1 w1 => ?_
  refine Tr.seq ?_
  refine Tr.regT ?_
  refine TO.alloc rfl rfl (by decide) rfl z27 zo27 (fun b1 => ?_)
  refine TO.nil ?_
  refine Fin.go ?_
  refine Tr.seq ?_
  refine Tr.regT ?_
  refine TO.op rfl rfl (by decide) (ok_move rfl (vl rfl)) ?_
  refine TO.op rfl rfl (by decide) (ok_buildSlice (xs := [.const (.int .i64 (24)), .const (.int .i64 (2)), .const (.int .i64 (1))]) (rows := [[_], [_], [_]]) rfl rfl Try.underlying22 sz3 z3 rfl (by decide) ⟨⟨(by exact rfl), (VL.le (vl rfl) (one_cellsP _))⟩, ⟨⟨(by exact rfl), (VL.le (vl rfl) (one_cellsP _))⟩, ⟨⟨(by exact rfl), (VL.le (vl rfl) (one_cellsP _))⟩, trivial⟩⟩⟩ (by decide)) ?_
  refine TO.efc 1 rfl rfl (by decide) (ef_callc rfl rfl (by decide) rfl (w_DOf (l := [24, 2, 1]) (by simp) (by simp)) ⟨⟨_, rfl, Pr.le_refl _⟩, ⟨_, rfl, full_le _ _⟩, trivial⟩) ?_
  refine TO.op rfl rfl (by decide) (ok_move rfl (vl rfl)) ?_
  refine TO.op rfl rfl (by decide) (ok_buildSlice (xs := [.const (.int .i64 (24)), .const (.int .i64 (3))]) (rows := [[_], [_]]) rfl rfl Try.underlying22 sz3 z3 rfl (by decide) ⟨⟨(by exact rfl), (VL.le (vl rfl) (one_cellsP _))⟩, ⟨⟨(by exact rfl), (VL.le (vl rfl) (one_cellsP _))⟩, trivial⟩⟩ (by decide)) ?_
  refine TO.efc 1 rfl rfl (by decide) (ef_callc rfl rfl (by decide) rfl (w_DOf (l := [24, 3]) (by simp) (by simp)) ⟨⟨_, rfl, Pr.le_refl _⟩, ⟨_, rfl, full_le _ _⟩, trivial⟩) ?_
  refine TO.op rfl rfl (by decide) (ok_buildSlice (xs := [.tmp 12, .tmp 15]) (rows := [[_], [_]]) rfl rfl Try.underlying22 sz3 z3 rfl (by decide) ⟨⟨(by exact rfl), (VL.le (vl rfl) (one_cellsP _))⟩, ⟨⟨(by exact rfl), (VL.le (vl rfl) (one_cellsP _))⟩, trivial⟩⟩ (by decide)) ?_
  refine TO.op rfl rfl (by decide) (ok_build (rows := [(2, [_])]) rfl bl27 zo27 ⟨⟨rfl, ⟨_, rfl, Pr.le_trans (full_le _ _) (one_cellsP _)⟩⟩, trivial⟩ rfl) ?_
  refine TO.alloc rfl rfl (by decide) rfl z27 zo27 (fun b2 => ?_)
  refine TO.store_all 0 rfl rfl rfl (vl rfl) (VL.le (vl rfl) (agg_cellsP _)) rfl sz27 rfl rfl ?_
  refine TO.nil ?_
  refine Fin.go ?_
  refine Tr.seq ?_
  refine Tr.seq ?_
  refine Tr.reg0 ?_
  refine Ch.op rfl rfl (by decide) (ok_assign rfl (vl rfl)) ?_
  refine Ch.nil ?_
  refine Fin.go ?_
  refine Tr.block ?_
  refine Tr.reC 0 [is (.slice none 0 0), andIs (.slice none 0 0) (ints []), ints [s.of [24, 2, 1], s.adv.of [24, 3]]] rfl ⟨Pr.le_refl _, own_nil rfl, Pr.le_refl _, trivial⟩ ?_
  refine Tr.addnil 3 1 ?_
  refine Tr.loopD2V1 [(0, _), (1, _), (4, _), (5, _)] ⟨⟨_, rfl, Pr.le_refl _⟩, ⟨_, rfl, Pr.le_refl _⟩, ⟨_, rfl, Pr.le_refl _⟩, ⟨_, rfl, Pr.le_refl _⟩, trivial⟩ (fun (l : List Int) (s' : DS) u => [(6, int ((l.length : Nat) : Int))]) (fun (l : List Int) (s' : DS) u => Hp M0 w0 S (appRes 3 1 u :: cellsRes true b2 27 [is (.slice none 0 0), andIs u (ints l), ints [s.of [24, 2, 1], s.adv.of [24, 3]]] :: cellsRes true b1 27 [is (.slice none 0 0), is (.slice none 0 0), is (.slice none 0 0)] :: diceS b s' :: extRes M1 w1 :: rs)) (fun (l : List Int) (s' : DS) => l.length ≤ n ∧ ∀ t ∈ l, 0 ≤ t ∧ t < 2) (fun (l : List Int) (s' : DS) => n - l.length) ([]) (_) (.slice none 0 0) (⟨by simp, by simp⟩) ⟨⟨_, rfl, Pr.le_refl _⟩, trivial⟩ (fun _ _ h => h) ?_
  rintro l s' u ⟨hl, hlt⟩
  refine Tr.seq ?_
  refine Tr.seq ?_
  refine Tr.reg0 ?_
  refine Ch.op rfl rfl (by decide) (ok_move rfl (vl rfl)) ?_
  refine Ch.op rfl rfl (by decide) (ok_move rfl (vl rfl)) ?_
  refine Ch.op rfl rfl (by decide) (ok_int rfl (vl rfl) (vl rfl) rfl) ?_
  refine Ch.nil ?_
  refine Fin.go ?_
  refine Tr.cond rfl (fun h1 => ?_) (fun h1 => ?_)
  ·
    have q1 := Nrm.nrm h1
    have := h1
    refine Tr.skip ?_
    refine Fin.go ?_
    refine Tr.seq ?_
    refine Tr.block ?_
    refine Tr.pad ?_
    refine Tr.regX mixed [none, some (0, 2, false, 0), none, some (0, 4, true, 0), none, some (0, 1, true, 28), none, some (0, 2, true, 28)] (by kernel_rfl) ?_
    refine Cx.op rfl rfl (by decide) (fun _ => okp_fieldAddr rfl fo27_1 (vl rfl)) ?_
    refine Cx.rd 2 rfl rfl rfl (by decide) (rd_load1 rfl one22 (vl rfl) rfl) ?_
    refine Cx.op rfl rfl (by decide) (fun _ => ok_move rfl (vl rfl)) ?_
    refine Cx.ef 4 rfl rfl (by decide) (ef_callc rfl rfl (by decide) rfl (w_DNext (by omega) (by omega)) ⟨⟨_, rfl, Pr.le_refl _⟩, ⟨_, rfl, Pr.le_refl _⟩, trivial⟩) ?_
    refine Cx.op rfl rfl (by decide) (fun _ => ok_buildSlice (xs := [.tmp 26]) (rows := [[_]]) rfl rfl Try.underlying22 sz3 z3 rfl (by decide) ⟨⟨(by exact rfl), (VL.le (vl rfl) (one_cellsP _))⟩, trivial⟩ (by decide)) ?_
    refine Cx.ef 1 rfl rfl (by decide) (ef_append rfl rfl (by decide) rfl Try.underlying22 sz3 by3 z3 rfl (by decide) ⟨_, rfl, andIs_le _ _⟩ ⟨_, rfl, full_le _ _⟩ (by simp only [List.length_map, List.length_append, List.length_cons, List.length_nil]; unfold maxLen; omega) (by simp only [List.length_map, List.length_append, List.length_cons, List.length_nil]; omega) (appR_is (by exact List.Mem.head _) ⟨_, rfl, andIs_is _ _⟩)) ?_
    refine Cx.op rfl rfl (by decide) (fun _ => okp_fieldAddr rfl fo27_1 (vl rfl)) ?_
    refine Cx.ef0 2 rfl rfl (ef_storeS rfl rfl rfl (vl rfl) rfl sz22 (by exact Nat.le_of_ble_eq_true rfl)) ?_
    refine Cx.nil ⟨rfl, ?_⟩
    refine FinX.open2 1 2 28 rfl rfl (by decide) rfl (fun v1 => ?_)
    refine FinX.done (AllC.cons (AllC.cons (AllC.cons (AllC.cons (AllC.cons (AllC.cons (AllC.map _))))))) ?_
    refine Fin.block ?_
    refine Fin.go ?_
    refine Tr.drop 0 ?_
    refine Tr.weak [(0, _), (1, _), (4, _), (5, _), (6, _)] ⟨⟨_, rfl, Pr.le_refl _⟩, ⟨_, rfl, Pr.le_refl _⟩, ⟨_, rfl, Pr.le_refl _⟩, ⟨_, rfl, Pr.le_refl _⟩, ⟨_, rfl, Pr.le_refl _⟩, trivial⟩ ?_
    refine Tr.reg0 ?_
    refine Ch.op rfl rfl (by decide) (ok_move rfl (vl rfl)) ?_
    first
      | (refine Ch.op rfl rfl (by decide) (ok_add rfl (vl rfl) (vl rfl) ?hin) ?_; case hin => unfold InI; omega)
      | refine Ch.op rfl rfl (by decide) (ok_int rfl (vl rfl) (vl rfl) rfl) ?_
    refine Ch.op rfl rfl (by decide) (ok_assign rfl (vl rfl)) ?_
    refine Ch.nil ?_
    refine Fin.reC 1 [is (.slice none 0 0), andIs v1 (ints (l ++ [s'.val 2])), ints [s.of [24, 2, 1], s.adv.of [24, 3]]] rfl ⟨Pr.le_refl _, own_le (ints_succ' _ _), Pr.le_refl _, trivial⟩ ?_
    exact Fin.famD2V1 (l ++ [s'.val 2]) (_) v1 (⟨⟨by simp; omega, all_snoc hlt (s'.val_in (by omega))⟩, by simp; omega⟩) ⟨⟨_, rfl, int_eq (by simp)⟩, ⟨_, rfl, Pr.le_refl _⟩, ⟨_, rfl, Pr.le_refl _⟩, ⟨_, rfl, Pr.le_refl _⟩, ⟨_, rfl, Pr.le_refl _⟩, trivial⟩ (fun _ _ h => h)
  ·
    have q1 := Nrm.nrm h1
    have := h1
    refine Tr.exit ?_
    refine Fin.then_exit ?_
    refine Fin.then_exit ?_
    refine Fin.block_here ?_
    refine Fin.go ?_
    refine Tr.seq ?_
    refine Tr.regT ?_
    refine TO.op rfl rfl (by decide) (ok_move rfl (vl rfl)) ?_
    refine TO.efc 3 rfl rfl (by decide) (ef_callc rfl rfl (by decide) rfl (w_DNext (by omega) (by omega)) ⟨⟨_, rfl, Pr.le_refl _⟩, ⟨_, rfl, Pr.le_refl _⟩, trivial⟩) ?_
    refine TO.op rfl rfl (by decide) (ok_assign rfl (vl rfl)) ?_
    refine TO.nil ?_
    refine Fin.go ?_
    refine Tr.seq ?_
    refine Tr.seq ?_
    have hv2 := s'.adv.val_in (n := 4) (by omega)
    refine Tr.regT ?_
    refine TO.op rfl rfl (by decide) (ok_move rfl (vl rfl)) ?_
    refine TO.efc 3 rfl rfl (by decide) (ef_callc rfl rfl (by decide) rfl (w_DNext (by omega) (by omega)) ⟨⟨_, rfl, Pr.le_refl _⟩, ⟨_, rfl, Pr.le_refl _⟩, trivial⟩) ?_
    first
      | (refine TO.op rfl rfl (by decide) (ok_add rfl (vl rfl) (vl rfl) ?hin) ?_; case hin => unfold InI; omega)
      | refine TO.op rfl rfl (by decide) (ok_int rfl (vl rfl) (vl rfl) rfl) ?_
    refine TO.op rfl rfl (by decide) (ok_assign rfl (vl rfl)) ?_
    refine TO.nil ?_
    refine Fin.go ?_
    refine Tr.weak [(0, _), (4, _), (5, _), (7, _), (8, _)] ⟨⟨_, rfl, Pr.le_refl _⟩, ⟨_, rfl, Pr.le_refl _⟩, ⟨_, rfl, Pr.le_refl _⟩, ⟨_, rfl, Pr.le_refl _⟩, ⟨_, rfl, Pr.le_refl _⟩, trivial⟩ ?_
    refine Tr.block ?_
    have hv1 := s'.val_in (n := 4) (by omega)
    refine Tr.reC 1 [andIs (.slice none 0 0) (winsP []), andIs u (ints l), ints [s.of [24, 2, 1], s.adv.of [24, 3]]] rfl ⟨own_nil rfl, Pr.le_refl _, Pr.le_refl _, trivial⟩ ?_
    refine Tr.addnil 45 3 ?_
    refine Tr.loopD4V1 [(0, _), (4, _), (5, _)] ⟨⟨_, rfl, Pr.le_refl _⟩, ⟨_, rfl, Pr.le_refl _⟩, ⟨_, rfl, Pr.le_refl _⟩, trivial⟩ (fun (ws : List Win) (fr : Int) (i : Int) (s2 : DS) u2 => [(7, int fr), (8, int i)]) (fun (ws : List Win) (fr : Int) (i : Int) (s2 : DS) u2 => Hp M0 w0 S (appRes 45 3 u2 :: appRes 3 1 u :: cellsRes true b2 27 [andIs u2 (winsP ws), andIs u (ints l), ints [s.of [24, 2, 1], s.adv.of [24, 3]]] :: cellsRes true b1 27 [is (.slice none 0 0), is (.slice none 0 0), is (.slice none 0 0)] :: diceS b s2 :: extRes M1 w1 :: rs)) (fun (ws : List Win) (fr : Int) (i : Int) (s2 : DS) => 0 ≤ i ∧ (2 ≤ i + ws.length ∧ i + ws.length ≤ 5) ∧ 0 ≤ fr ∧ fr ≤ 3 + 35 * ws.length ∧ OrdW ws ∧ (∀ w ∈ ws, goodWin w) ∧ ∀ w ∈ ws, w.hi ≤ fr) (fun (ws : List Win) (fr : Int) (i : Int) (s2 : DS) => i.toNat) ([]) (s'.val 4) (2 + s'.adv.val 4) (_) (.slice none 0 0) (⟨by omega, by simp; omega, by omega, by simp; omega, by intro j a b h; simp at h, by simp, by simp⟩) ⟨⟨_, rfl, Pr.le_refl _⟩, ⟨_, rfl, Pr.le_refl _⟩, trivial⟩ (fun _ _ h => h) ?_
    rintro ws fr i s2 u2 ⟨hi, hiw, hfr0, hfr1, hord, hgood, hfr⟩
    have hof : s2.of [30, 5, 1] = 30 ∨ s2.of [30, 5, 1] = 5 ∨ s2.of [30, 5, 1] = 1 := by have := s2.of_mem (l := [30, 5, 1]) (by simp); simpa using this
    have hv3 := s2.adv.adv.val_in (n := 5) (by omega)
    refine Tr.seq ?_
    refine Tr.seq ?_
    refine Tr.reg0 ?_
    refine Ch.op rfl rfl (by decide) (ok_move rfl (vl rfl)) ?_
    refine Ch.op rfl rfl (by decide) (ok_int rfl (vl rfl) (vl rfl) rfl) ?_
    refine Ch.nil ?_
    refine Fin.go ?_
    refine Tr.cond rfl (fun h2 => ?_) (fun h2 => ?_)
    ·
      have q2 := Nrm.nrm h2
      have hi0 : i > 0 := of_decide_eq_true h2
      refine Tr.skip ?_
      refine Fin.go ?_
      refine Tr.seq ?_
      refine Tr.block ?_
      refine Tr.seq ?_
      refine Tr.regT ?_
      refine TO.op rfl rfl (by decide) (ok_move rfl (vl rfl)) ?_
      first
        | (refine TO.op rfl rfl (by decide) (ok_add rfl (vl rfl) (vl rfl) ?hin) ?_; case hin => unfold InI; omega)
        | refine TO.op rfl rfl (by decide) (ok_int rfl (vl rfl) (vl rfl) rfl) ?_
      refine TO.op rfl rfl (by decide) (ok_move rfl (vl rfl)) ?_
      refine TO.op rfl rfl (by decide) (ok_buildSlice (xs := [.const (.int .i64 (30)), .const (.int .i64 (5)), .const (.int .i64 (1))]) (rows := [[_], [_], [_]]) rfl rfl Try.underlying22 sz3 z3 rfl (by decide) ⟨⟨(by exact rfl), (VL.le (vl rfl) (one_cellsP _))⟩, ⟨⟨(by exact rfl), (VL.le (vl rfl) (one_cellsP _))⟩, ⟨⟨(by exact rfl), (VL.le (vl rfl) (one_cellsP _))⟩, trivial⟩⟩⟩ (by decide)) ?_
      refine TO.efc 4 rfl rfl (by decide) (ef_callc rfl rfl (by decide) rfl (w_DOf (l := [30, 5, 1]) (by simp) (by simp)) ⟨⟨_, rfl, Pr.le_refl _⟩, ⟨_, rfl, full_le _ _⟩, trivial⟩) ?_
      first
        | (refine TO.op rfl rfl (by decide) (ok_add rfl (vl rfl) (vl rfl) ?hin) ?_; case hin => unfold InI; omega)
        | refine TO.op rfl rfl (by decide) (ok_int rfl (vl rfl) (vl rfl) rfl) ?_
      refine TO.op rfl rfl (by decide) (ok_assign rfl (vl rfl)) ?_
      refine TO.nil ?_
      refine Fin.go ?_
      refine Tr.weak [(0, _), (4, _), (5, _), (7, _), (8, _), (9, _)] ⟨⟨_, rfl, Pr.le_refl _⟩, ⟨_, rfl, Pr.le_refl _⟩, ⟨_, rfl, Pr.le_refl _⟩, ⟨_, rfl, Pr.le_refl _⟩, ⟨_, rfl, Pr.le_refl _⟩, ⟨_, rfl, Pr.le_refl _⟩, trivial⟩ ?_
      refine Tr.seq ?_
      have hv5 := s2.adv.val_in (n := 5) (by omega)
      obtain ⟨tl, htl⟩ := at_ (l := calTeams) (k := (s2.adv.val 5).toNat) (by have : calTeams.length = 5 := rfl; omega)
      have htl2 := calTeams_ok (List.mem_of_getElem? htl)
      refine Tr.pad ?_
      refine Tr.regX mixed [none, some (0, 3, false, 0), none, none, none, none, none, none, none, none, none, some (0, 5, true, 0), none, none, none, none, some (0, 1, true, 61), none, some (0, 3, true, 61)] (by kernel_rfl) ?_
      refine Cx.op rfl rfl (by decide) (fun _ => okp_fieldAddr rfl fo27_0 (vl rfl)) ?_
      refine Cx.rd 3 rfl rfl rfl (by decide) (rd_load1 rfl one25 (vl rfl) rfl) ?_
      refine Cx.op rfl rfl (by decide) (fun _ => ok_move rfl (vl rfl)) ?_
      refine Cx.op rfl rfl (by decide) (fun _ => ok_move rfl (vl rfl)) ?_
      refine Cx.op rfl rfl (by decide) (fun _ => ok_build (rows := [(0, [_]), (1, [_])]) rfl bl43 zo43 ⟨⟨rfl, (VL.le (vl rfl) (one_cellsP _))⟩, ⟨⟨rfl, (VL.le (vl rfl) (one_cellsP _))⟩, trivial⟩⟩ rfl) ?_
      refine Cx.op rfl rfl (by decide) (fun _ => ok_buildSlice (xs := [.const (.int .i64 (0)), .const (.int .i64 (1))]) (rows := [[_], [_]]) rfl rfl Try.underlying22 sz3 z3 rfl (by decide) ⟨⟨(by exact rfl), (VL.le (vl rfl) (one_cellsP _))⟩, ⟨⟨(by exact rfl), (VL.le (vl rfl) (one_cellsP _))⟩, trivial⟩⟩ (by decide)) ?_
      refine Cx.op rfl rfl (by decide) (fun _ => ok_buildSlice (xs := [.const (.int .i64 (0)), .const (.int .i64 (1))]) (rows := [[_], [_]]) rfl rfl Try.underlying22 sz3 z3 rfl (by decide) ⟨⟨(by exact rfl), (VL.le (vl rfl) (one_cellsP _))⟩, ⟨⟨(by exact rfl), (VL.le (vl rfl) (one_cellsP _))⟩, trivial⟩⟩ (by decide)) ?_
      refine Cx.op rfl rfl (by decide) (fun _ => ok_buildSlice (xs := [.const (.int .i64 (0))]) (rows := [[_]]) rfl rfl Try.underlying22 sz3 z3 rfl (by decide) ⟨⟨(by exact rfl), (VL.le (vl rfl) (one_cellsP _))⟩, trivial⟩ (by decide)) ?_
      refine Cx.op rfl rfl (by decide) (fun _ => ok_buildSlice (xs := [.const (.int .i64 (1))]) (rows := [[_]]) rfl rfl Try.underlying22 sz3 z3 rfl (by decide) ⟨⟨(by exact rfl), (VL.le (vl rfl) (one_cellsP _))⟩, trivial⟩ (by decide)) ?_
      refine Cx.op rfl rfl (by decide) (fun _ => ok_buildSlice (xs := [.tmp 50, .tmp 51, .tmp 52, .tmp 53, .const (.slice none 0 0)]) (rows := [[_], [_], [_], [_], [_]]) rfl rfl Try.underlying32 sz22 z22 rfl (by decide) ⟨⟨(by exact rfl), ⟨_, rfl, Pr.le_trans (full_le _ _) (one_cellsP _)⟩⟩, ⟨⟨(by exact rfl), ⟨_, rfl, Pr.le_trans (full_le _ _) (one_cellsP _)⟩⟩, ⟨⟨(by exact rfl), ⟨_, rfl, Pr.le_trans (full_le _ _) (one_cellsP _)⟩⟩, ⟨⟨(by exact rfl), ⟨_, rfl, Pr.le_trans (full_le _ _) (one_cellsP _)⟩⟩, ⟨⟨(by exact rfl), ⟨_, rfl, Pr.le_trans (nil_slice 1) (one_cellsP _)⟩⟩, trivial⟩⟩⟩⟩⟩ (by decide)) ?_
      refine Cx.op rfl rfl (by decide) (fun _ => ok_move rfl (vl rfl)) ?_
      refine Cx.ef 5 rfl rfl (by decide) (ef_callc rfl rfl (by decide) rfl (w_DNext (by omega) (by omega)) ⟨⟨_, rfl, Pr.le_refl _⟩, ⟨_, rfl, Pr.le_refl _⟩, trivial⟩) ?_
      refine Cx.op rfl rfl (by decide) (fun _ => ok_indexAddr rfl Try.underlying32 sz22 ⟨_, rfl, full_le _ _⟩ (vl rfl) (by omega) (row_atI (l := calTeams) (f := fun l => [ints l]) htl)) ?_
      refine Cx.op rfl rfl (by decide) (fun _ => ok_load1 rfl one22 (vl rfl)) ?_
      refine Cx.op rfl rfl (by decide) (fun _ => ok_build (rows := [(0, _), (1, [_])]) rfl bl45 zo45 ⟨⟨rfl, (VL.le (vl rfl) (agg_cellsP _))⟩, ⟨⟨rfl, (VL.le (vl rfl) (one_cellsP _))⟩, trivial⟩⟩ rfl) ?_
      refine Cx.op rfl rfl (by decide) (fun _ => ok_buildSlice (xs := [.tmp 59]) (rows := [_]) rfl rfl Try.underlying25 sz45 z45 rfl (by decide) ⟨⟨(by exact rfl), (VL.le (vl rfl) (agg_cellsP _))⟩, trivial⟩ (by decide)) ?_
      refine Cx.ef 1 rfl rfl (by decide) (ef_append rfl rfl (by decide) rfl Try.underlying25 sz45 by45 z45 rfl (by decide) ⟨_, rfl, andIs_le _ _⟩ ⟨_, rfl, full_le _ _⟩ (by simp only [List.length_map, List.length_append, List.length_cons, List.length_nil]; unfold maxLen; omega) (by simp only [List.length_map, List.length_append, List.length_cons, List.length_nil]; omega) (appR_is (by exact List.Mem.head _) ⟨_, rfl, andIs_is _ _⟩)) ?_
      refine Cx.op rfl rfl (by decide) (fun _ => okp_fieldAddr rfl fo27_0 (vl rfl)) ?_
      refine Cx.ef0 3 rfl rfl (ef_storeS rfl rfl rfl (vl rfl) rfl sz25 (by exact Nat.le_of_ble_eq_true rfl)) ?_
      refine Cx.nil ⟨rfl, ?_⟩
      refine FinX.open2 1 3 61 rfl rfl (by decide) rfl (fun v2 => ?_)
      refine FinX.done (AllC.cons (AllC.cons (AllC.cons (AllC.cons (AllC.cons (AllC.cons (AllC.cons (AllC.map _)))))))) ?_
      refine Fin.go ?_
      refine Tr.drop 0 ?_
      refine Tr.weak [(0, _), (4, _), (5, _), (8, _), (9, _)] ⟨⟨_, rfl, Pr.le_refl _⟩, ⟨_, rfl, Pr.le_refl _⟩, ⟨_, rfl, Pr.le_refl _⟩, ⟨_, rfl, Pr.le_refl _⟩, ⟨_, rfl, Pr.le_refl _⟩, trivial⟩ ?_
      refine Tr.regT ?_
      refine TO.op rfl rfl (by decide) (ok_move rfl (vl rfl)) ?_
      refine TO.op rfl rfl (by decide) (ok_move rfl (vl rfl)) ?_
      refine TO.efc 4 rfl rfl (by decide) (ef_callc rfl rfl (by decide) rfl (w_DNext (by omega) (by omega)) ⟨⟨_, rfl, Pr.le_refl _⟩, ⟨_, rfl, Pr.le_refl _⟩, trivial⟩) ?_
      first
        | (refine TO.op rfl rfl (by decide) (ok_add rfl (vl rfl) (vl rfl) ?hin) ?_; case hin => unfold InI; omega)
        | refine TO.op rfl rfl (by decide) (ok_int rfl (vl rfl) (vl rfl) rfl) ?_
      refine TO.op rfl rfl (by decide) (ok_assign rfl (vl rfl)) ?_
      refine TO.nil ?_
      refine Fin.block ?_
      refine Fin.go ?_
      refine Tr.reg0 ?_
      refine Ch.op rfl rfl (by decide) (ok_move rfl (vl rfl)) ?_
      first
        | (refine Ch.op rfl rfl (by decide) (ok_sub rfl (vl rfl) (vl rfl) ?hin) ?_; case hin => unfold InI; omega)
        | refine Ch.op rfl rfl (by decide) (ok_int rfl (vl rfl) (vl rfl) rfl) ?_
      refine Ch.op rfl rfl (by decide) (ok_assign rfl (vl rfl)) ?_
      refine Ch.nil ?_
      refine Fin.reC 2 [andIs v2 (winsP (ws ++ [Win.mk fr (fr + 1 + s2.of [30, 5, 1]) tl])), andIs u (ints l), ints [s.of [24, 2, 1], s.adv.of [24, 3]]] rfl ⟨own_le (wins_succ _ _ _ _), Pr.le_refl _, Pr.le_refl _, trivial⟩ ?_
      exact Fin.famD4V1 (ws ++ [Win.mk fr (fr + 1 + s2.of [30, 5, 1]) tl]) (fr + 1 + s2.of [30, 5, 1] + s2.adv.adv.val 5) (i - 1) (_) v2 (⟨⟨by omega, by simp; omega, by omega, by simp; omega, ordW_snoc hord hfr, all_snoc hgood ⟨hfr0, by show fr < fr + 1 + _; omega, by show fr + 1 + _ < 200; omega, htl2.1, htl2.2⟩, all_snoc (fun w hw => by have := hfr w hw; omega) (by show fr + 1 + _ ≤ _; omega)⟩, by omega⟩) ⟨⟨_, rfl, Pr.le_refl _⟩, ⟨_, rfl, Pr.le_refl _⟩, ⟨_, rfl, Pr.le_refl _⟩, ⟨_, rfl, Pr.le_refl _⟩, ⟨_, rfl, Pr.le_refl _⟩, trivial⟩ (fun _ _ h => h)
    ·
      have q2 := Nrm.nrm h2
      have hi0 : ¬ i > 0 := of_decide_eq_false h2
      refine Tr.exit ?_
      refine Fin.then_exit ?_
      refine Fin.then_exit ?_
      refine Fin.block_here ?_
      refine Fin.go ?_
      refine Tr.seq ?_
      refine Tr.regT ?_
      refine TO.rd 2 rfl rfl rfl (by decide) (rd_loadA rfl agg27 sz27 (vl rfl) rfl rfl) ?_
      refine TO.store_all 3 rfl rfl rfl (vl rfl) (VL.le (vl rfl) (agg_cellsP _)) rfl sz27 rfl rfl ?_
      refine TO.nil ?_
      refine Fin.go ?_
      refine Tr.ret ?_
      refine Fin.closeD 4 _ rfl rfl ?_
      refine Fin.retY1 [_, _, _, _] rfl (RVal.cell 3 rfl rfl agg27 sz27 rfl (Pr.le_refl _)) ?_ (fun _ _ _ _ => rfl)
      · exact ex_in ⟨ws, l, [s.of [24, 2, 1], s.adv.of [24, 3]]⟩ (fact_in (by have hln : l.length = n := (by omega); rw [← hln]; exact goodCal (by omega) (by omega) hord hgood hlt rfl (by have h1 := s.of_mem (l := [24, 2, 1]) (by simp); have h2 := s.adv.of_mem (l := [24, 3]) (by simp); intro r hr; simp at h1 h2 hr; omega)) (agg_le ⟨andIs_le _ _, andIs_le _ _, Pr.le_refl _, trivial⟩))
theorem e_Calendar : Entry Try.prog 17 := ⟨_, Try.func17, rfl, rfl⟩
end Go.Proofs.Ytacifhfelijekaa
