/-
  What the functions named below compute, proved from their text; printed by a program of our own.
-/
import Derived.Test.YtacifhfelijekaaTypes
import Derived.Test.YtacifhfelijekaaSlices
import Derived.Test.YtacifhfelijekaaWin1
import Derived.Test.YtacifhfelijekaaWin2
import Derived.Test.YtacifhfelijekaaWin3
namespace Go.Proofs.Ytacifhfelijekaa
open Go Go.RowKit Cp

noncomputable def Cal.fitE (c : Cal) (teams days others : List Int) : Int :=
  if c.own ≠ 0 then c.own else if teams.length ≠ days.length then 1 else if 24 < teams.length then 3
  else if (teams ++ others).any (fun n => !c.has n) then 2 else if (teams.zip days).all (fun p => c.may p.1 p.2) then 0 else 47
def Cal.cell (c : Cal) (p : Int × Int) : Nat := (c.at p.2).toNat * 8 + p.1.toNat
def Cal.cnt (c : Cal) (l : List (Int × Int)) (k : Nat) : Nat := l.countP fun p => c.cell p == k
def Cal.loads (c : Cal) (l : List (Int × Int)) : List Int := (List.range 256).map fun k => (c.cnt l k : Int)
def loadP (c : Cal) (l : List (Int × Int)) : List Pr := (c.loads l).map fun z => int z
noncomputable def loadR (c : Cal) (teams days others : List Int) : Pr := if c.fitE teams days others = 0 then ref (loadP c (teams.zip days)) else is (.pointer none)
theorem loadR_err {c : Cal} {teams days others : List Int} {e : Int} (h : c.fitE teams days others = e) (he : e ≠ 0) : Pr.le (is (.pointer none)) (loadR c teams days others) := by
  unfold loadR; rw [if_neg (by rw [h]; exact he)]; exact Pr.le_refl _
theorem loadR_ok {c : Cal} {teams days others : List Int} (h : c.fitE teams days others = 0) : loadR c teams days others = ref (loadP c (teams.zip days)) := by
  unfold loadR; rw [if_pos h]
theorem loadP_length (c : Cal) (l : List (Int × Int)) : (loadP c l).length = 256 := by simp [loadP, Cal.loads]
theorem loadP_at (c : Cal) (l : List (Int × Int)) {k : Nat} (hk : k < 256) : (loadP c l)[k]? = some (int (c.cnt l k)) := by
  simp [loadP, Cal.loads, List.getElem?_range hk]
theorem loadP_get (c : Cal) (l : List (Int × Int)) {a x : Int} (h1 : 0 ≤ a ∧ a < 32) (h2 : 0 ≤ x ∧ x < 8) : (loadP c l)[0 + a.toNat * 8 + x.toNat * 1]? = some (int (c.cnt l (a.toNat * 8 + x.toNat))) := by
  rw [show 0 + a.toNat * 8 + x.toNat * 1 = a.toNat * 8 + x.toNat by omega]
  exact loadP_at c l (by omega)
theorem loadP_zero (c : Cal) : loadP c [] = (List.replicate 256 (Value.int .i64 0)).map is := by
  apply List.ext_getElem?
  intro k
  by_cases hk : k < 256
  · rw [loadP_at c [] hk, List.getElem?_map, List.getElem?_replicate, if_pos hk]; rfl
  · rw [List.getElem?_eq_none (by rw [loadP_length]; omega), List.getElem?_eq_none (by rw [List.length_map, List.length_replicate]; omega)]
theorem loadP_step (c : Cal) (l : List (Int × Int)) {x d : Int} (h1 : 0 ≤ c.at d ∧ c.at d < 32) (h2 : 0 ≤ x ∧ x < 8) :
    (loadP c l).take (0 + (c.at d).toNat * 8 + x.toNat * 1) ++ [int ((c.cnt l ((c.at d).toNat * 8 + x.toNat) : Int) + 1)] ++ (loadP c l).drop (0 + (c.at d).toNat * 8 + x.toNat * 1 + 1) = loadP c (l ++ [(x, d)]) := by
  generalize hm : (c.at d).toNat * 8 + x.toNat = m
  rw [show 0 + (c.at d).toNat * 8 + x.toNat * 1 = m by omega]
  have hm2 : m < 256 := by omega
  have hcell : c.cell (x, d) = m := hm
  have hcnt : ∀ k, c.cnt (l ++ [(x, d)]) k = c.cnt l k + if m = k then 1 else 0 := by
    intro k
    unfold Cal.cnt
    rw [List.countP_append, List.countP_cons, List.countP_nil, hcell]
    simp
  apply List.ext_getElem?
  intro k
  by_cases hk : k < 256
  · rw [loadP_at c _ hk, hcnt]
    rcases Nat.lt_trichotomy k m with h | h | h
    · rw [List.append_assoc, List.getElem?_append_left (by rw [List.length_take, loadP_length]; omega), List.getElem?_take, if_pos h, loadP_at c l hk, if_neg (by omega)]; rfl
    · subst h
      rw [List.append_assoc, List.getElem?_append_right (by rw [List.length_take, loadP_length]; omega), List.length_take, loadP_length, Nat.min_eq_left (by omega), Nat.sub_self]
      simp
    · rw [List.getElem?_append_right (by rw [List.length_append, List.length_take, loadP_length]; simp; omega), List.length_append, List.length_take, loadP_length, List.getElem?_drop, Nat.min_eq_left (by omega)]
      simp only [List.length_cons, List.length_nil]
      rw [show m + 1 + (k - (m + (0 + 1))) = k by omega, loadP_at c l hk, if_neg (by omega)]; rfl
  · rw [List.getElem?_eq_none (by simp [loadP_length]; omega), List.getElem?_eq_none (by rw [loadP_length]; omega)]
theorem cnt_le (c : Cal) (l : List (Int × Int)) (k : Nat) : c.cnt l k ≤ l.length := List.countP_le_length
theorem take_zip {a b : List Int} {k : Nat} {x y : Int} (hx : a[k]? = some x) (hy : b[k]? = some y) : (a.zip b).take (k + 1) = (a.zip b).take k ++ [(x, y)] := by
  have hz : (a.zip b)[k]? = some (x, y) := by rw [List.getElem?_zip_eq_some]; exact ⟨hx, hy⟩
  rw [List.take_add_one, hz]; rfl
/-- A team that may work on a day: the day lies in a window. -/
theorem may_at {c : Cal} {n d : Int} (h : c.may n d = true) : 0 ≤ c.at d := by
  have h2 := find_idx (inWin d) c.wins
  unfold Cal.may Cal.winAt at h
  unfold Cal.at
  rcases Int.lt_or_le (idx (inWin d) c.wins) 0 with h3 | h3
  · rw [if_neg (by omega)] at h2
    rw [h2] at h; cases h
  · exact h3
theorem own_zero {c : Cal} (h : c.own = 0) : c.wins.length ≤ 32 ∧ c.room.length ≤ 8 := by
  unfold Cal.own Cal.check at h
  split at h
  · omega
  · omega
theorem has_lt {c : Cal} {n : Int} (h : c.own = 0) (hn : c.has n = true) : 0 ≤ n ∧ n < 8 := by
  have := (own_zero h).2
  unfold Cal.has at hn
  simp at hn
  omega
theorem at_lt {c : Cal} {d : Int} (h : c.own = 0) : c.at d < 32 := by
  have := (own_zero h).1
  have := (idx_range (inWin d) c.wins).2
  unfold Cal.at
  omega
theorem all_no {c : Cal} {a b : List Int} {k : Nat} {n d : Int} (hx : a[k]? = some n) (hd : b[k]? = some d) (h : (!c.may n d) = true) : ¬ (a.zip b).all (fun p => c.may p.1 p.2) = true := by
  intro h2
  rw [List.all_eq_true] at h2
  have hz : (a.zip b)[k]? = some (n, d) := by rw [List.getElem?_zip_eq_some]; exact ⟨hx, hd⟩
  have := h2 _ (List.mem_of_getElem? hz)
  simp [this] at h
theorem all_yes {c : Cal} {a b : List Int} (h : ((a.zip b).take a.length).all (fun p => c.may p.1 p.2) = true) (hl : a.length = b.length) : (a.zip b).all (fun p => c.may p.1 p.2) = true := by
  rwa [List.take_of_length_le (by simp; omega)] at h
theorem has_of {c : Cal} {l : List Int} {n : Int} (h : l.any (fun n => !c.has n) = false) (hn : n ∈ l) : c.has n = true := by
  rw [List.any_eq_false] at h
  simpa using h n hn

theorem w_load1 {c : Cal} {n : Int}  : Fun Try.prog 54 [int n, ref [winsP c.wins, ints c.team, ints c.room]] (bool (!c.has n)) := by
  refine Fun.of Try.func54 rfl rfl (by exact Nat.le_of_ble_eq_true rfl) fun M0 w0 => ?_
  refine Tr.seq ?_
  refine Tr.reg0 ?_
  refine Ch.op rfl rfl (by decide) (ok_assign rfl (vl rfl)) ?_
  refine Ch.nil ?_
  refine Fin.go ?_
  refine Tr.seq ?_
  refine Tr.reg0 ?_
  refine Ch.op rfl rfl (by decide) (ok_loadA rfl agg27 sz27 (vl rfl) rfl rfl) ?_
  refine Ch.op rfl rfl (by decide) (ok_move rfl (vl rfl)) ?_
  refine Ch.op rfl rfl (by decide) (ok_call rfl (w_team) ⟨⟨_, rfl, Pr.le_refl _⟩, ⟨_, rfl, Pr.le_refl _⟩, trivial⟩) ?_
  refine Ch.op rfl rfl (by decide) (ok_not rfl (vl rfl)) ?_
  refine Ch.op rfl rfl (by decide) (ok_assign rfl (vl rfl)) ?_
  refine Ch.nil ?_
  refine Fin.go ?_
  refine Tr.ret ?_
  refine Fin.ret1 rfl (OutW.bse _ _) rfl ?_
  · first | exact Pr.le_refl _ | (refine int_eq ?_; simp_all; done) | (refine bool_eq ?_; simp_all; done) | (refine bool_eq ?_; simp_all; omega) | (refine int_eq ?_; omega)
theorem e_load1 : Entry Try.prog 54 := ⟨_, Try.func54, rfl, rfl⟩
theorem w_load {c : Cal} {teams days others : List Int} (ho : others.length ≤ 1000000000) : Fun Try.prog 32 [calP c, ints teams, ints days, ints others] (tup [loadR c teams days others, int (c.fitE teams days others)]) := by
  refine Fun.of Try.func32 rfl rfl (by exact Nat.le_of_ble_eq_true rfl) fun M0 w0 => ?_
  refine Tr.seq ?_
  refine Tr.reg0 ?_
  refine Ch.op rfl rfl (by decide) (ok_box rfl (VL.le (vl rfl) (agg_cellsP _))) ?_
  refine Ch.op rfl rfl (by decide) (ok_assign rfl (vl rfl)) ?_
  refine Ch.op rfl rfl (by decide) (ok_assign rfl (vl rfl)) ?_
  refine Ch.nil ?_
  refine Fin.go ?_
  refine Tr.seq ?_
  refine Tr.seq ?_
  refine Tr.reg0 ?_
  refine Ch.op rfl rfl (by decide) (ok_loadA rfl agg27 sz27 (vl rfl) rfl rfl) ?_
  refine Ch.op rfl rfl (by decide) (ok_call rfl (w_own) ⟨⟨_, rfl, Pr.le_refl _⟩, trivial⟩) ?_
  refine Ch.op rfl rfl (by decide) (ok_assign rfl (vl rfl)) ?_
  refine Ch.nil ?_
  refine Fin.go ?_
  refine Tr.seq ?_
  refine Tr.reg0 ?_
  refine Ch.op rfl rfl (by decide) (ok_move rfl (vl rfl)) ?_
  refine Ch.op rfl rfl (by decide) (ok_int rfl (vl rfl) (vl rfl) rfl) ?_
  refine Ch.nil ?_
  refine Fin.go ?_
  refine Tr.cond rfl (fun h1 => ?_) (fun h1 => ?_)
  ·
    have q1 := Nrm.nrm h1
    refine Tr.seq ?_
    refine Tr.reg0 ?_
    refine Ch.op rfl rfl (by decide) (ok_move rfl (vl rfl)) ?_
    refine Ch.op rfl rfl (by decide) (ok_assign rfl (vl rfl)) ?_
    refine Ch.op rfl rfl (by decide) (ok_assign rfl (vl rfl)) ?_
    refine Ch.nil ?_
    refine Fin.go ?_
    refine Tr.ret ?_
    refine Fin.then_ret ?_
    refine Fin.ret2 rfl (OutW.bse _ _) rfl ?_ rfl ?_
    · exact loadR_err (by unfold Cal.fitE; rw [if_pos q1]) q1
    · refine int_eq ?_; unfold Cal.fitE; rw [if_pos q1]
  ·
    have q1 := Nrm.nrm h1
    refine Tr.skip ?_
    refine Fin.go ?_
    refine Tr.seq ?_
    refine Tr.block ?_
    refine Tr.seq ?_
    refine Tr.reg0 ?_
    refine Ch.op rfl rfl (by decide) (ok_move rfl (vl rfl)) ?_
    first
      | refine Ch.op rfl rfl (by decide) (ok_lenm rfl Try.underlying22 (vl rfl)) ?_
      | refine Ch.op rfl rfl (by decide) (ok_len rfl Try.underlying22 (vl rfl)) ?_
    refine Ch.op rfl rfl (by decide) (ok_move rfl (vl rfl)) ?_
    first
      | refine Ch.op rfl rfl (by decide) (ok_lenm rfl Try.underlying22 (vl rfl)) ?_
      | refine Ch.op rfl rfl (by decide) (ok_len rfl Try.underlying22 (vl rfl)) ?_
    refine Ch.op rfl rfl (by decide) (ok_int rfl (vl rfl) (vl rfl) rfl) ?_
    refine Ch.op rfl rfl (by decide) (ok_assign rfl (vl rfl)) ?_
    refine Ch.nil ?_
    refine Fin.go ?_
    refine Tr.weak [(1, _), (2, _), (3, _), (4, _), (19, _)] ⟨⟨_, rfl, Pr.le_refl _⟩, ⟨_, rfl, Pr.le_refl _⟩, ⟨_, rfl, Pr.le_refl _⟩, ⟨_, rfl, Pr.le_refl _⟩, ⟨_, rfl, Pr.le_refl _⟩, trivial⟩ ?_
    refine Tr.cond rfl (fun h2 => ?_) (fun h2 => ?_)
    ·
      have q2 := Nrm.nrm h2
      refine Tr.seq ?_
      refine Tr.reg0 ?_
      refine Ch.op rfl rfl (by decide) (ok_assign rfl (vl rfl)) ?_
      refine Ch.op rfl rfl (by decide) (ok_assign rfl (vl rfl)) ?_
      refine Ch.nil ?_
      refine Fin.go ?_
      refine Tr.ret ?_
      refine Fin.block_ret ?_
      refine Fin.then_ret ?_
      refine Fin.ret2 rfl (OutW.bse _ _) rfl ?_ rfl ?_
      · exact loadR_err (by unfold Cal.fitE; rw [if_neg (not_not_intro q1), if_pos (by omega)]) (by decide)
      · refine int_eq ?_; unfold Cal.fitE; rw [if_neg (not_not_intro q1), if_pos (by omega)]
    ·
      have q2 := Nrm.nrm h2
      refine Tr.seq ?_
      refine Tr.reg0 ?_
      refine Ch.op rfl rfl (by decide) (ok_move rfl (vl rfl)) ?_
      first
        | refine Ch.op rfl rfl (by decide) (ok_lenm rfl Try.underlying22 (vl rfl)) ?_
        | refine Ch.op rfl rfl (by decide) (ok_len rfl Try.underlying22 (vl rfl)) ?_
      refine Ch.op rfl rfl (by decide) (ok_int rfl (vl rfl) (vl rfl) rfl) ?_
      refine Ch.op rfl rfl (by decide) (ok_assign rfl (vl rfl)) ?_
      refine Ch.nil ?_
      refine Fin.go ?_
      refine Tr.cond rfl (fun h3 => ?_) (fun h3 => ?_)
      ·
        have q3 := Nrm.nrm h3
        refine Tr.seq ?_
        refine Tr.reg0 ?_
        refine Ch.op rfl rfl (by decide) (ok_assign rfl (vl rfl)) ?_
        refine Ch.op rfl rfl (by decide) (ok_assign rfl (vl rfl)) ?_
        refine Ch.nil ?_
        refine Fin.go ?_
        refine Tr.ret ?_
        refine Fin.block_ret ?_
        refine Fin.then_ret ?_
        refine Fin.ret2 rfl (OutW.bse _ _) rfl ?_ rfl ?_
        · exact loadR_err (by unfold Cal.fitE; rw [if_neg (not_not_intro q1), if_neg (by omega), if_pos (by omega)]) (by decide)
        · refine int_eq ?_; unfold Cal.fitE; rw [if_neg (not_not_intro q1), if_neg (by omega), if_pos (by omega)]
      ·
        have q3 := Nrm.nrm h3
        refine Tr.seq ?_
        refine Tr.regT ?_
        refine TO.op rfl rfl (by decide) (ok_move rfl (vl rfl)) ?_
        refine TO.pad ?_
        refine TO.efs 0 rfl rfl (by decide) (ef_call rfl rfl (by decide) rfl (w_CloneI (by omega)) ⟨⟨_, rfl, Pr.le_refl _⟩, trivial⟩) (fun v1 => ?_)
        refine TO.op rfl rfl (by decide) (ok_move rfl (vl rfl)) ?_
        refine TO.efs 0 rfl rfl (by decide) (ef_append rfl rfl (by decide) rfl Try.underlying22 sz3 by3 z3 rfl (by decide) ⟨_, rfl, andIs_le _ _⟩ (vl rfl) (by simp only [List.length_map, List.length_append, List.length_cons, List.length_nil]; unfold maxLen; omega) (by simp only [List.length_map, List.length_append, List.length_cons, List.length_nil]; omega) (appR_is (by exact List.Mem.head _) ⟨_, rfl, andIs_is _ _⟩)) (fun v2 => ?_)
        refine TO.op rfl rfl (by decide) (ok_makeFunc rfl rfl) ?_
        refine TO.op rfl rfl (by decide) (ok_call rfl (w_ContainsFuncI (l := teams ++ others) (p := fun n => !c.has n)) ⟨⟨_, rfl, Pr.le_trans (andIs_le _ _) (Pr.le_of_eq (by rw [← List.map_append]))⟩, ⟨_, rfl, fn_le_clo (w_load1 (c := c) (n := 0)).1 (fun x => w_load1 (c := c) (n := x))⟩, trivial⟩) ?_
        refine TO.op rfl rfl (by decide) (ok_assign rfl (vl rfl)) ?_
        refine TO.nil ?_
        refine Fin.go ?_
        refine Tr.drop 0 ?_
        refine Tr.weak [(1, _), (2, _), (4, _), (29, _)] ⟨⟨_, rfl, Pr.le_refl _⟩, ⟨_, rfl, Pr.le_refl _⟩, ⟨_, rfl, Pr.le_refl _⟩, ⟨_, rfl, Pr.le_refl _⟩, trivial⟩ ?_
        refine Tr.cond rfl (fun h4 => ?_) (fun h4 => ?_)
        ·
          have q4 := Nrm.nrm h4
          refine Tr.seq ?_
          refine Tr.reg0 ?_
          refine Ch.op rfl rfl (by decide) (ok_assign rfl (vl rfl)) ?_
          refine Ch.op rfl rfl (by decide) (ok_assign rfl (vl rfl)) ?_
          refine Ch.nil ?_
          refine Fin.go ?_
          refine Tr.ret ?_
          refine Fin.block_ret ?_
          refine Fin.then_ret ?_
          refine Fin.ret2 rfl (OutW.bse _ _) rfl ?_ rfl ?_
          · exact loadR_err (by unfold Cal.fitE; rw [if_neg (not_not_intro q1), if_neg (by omega), if_neg (by omega), if_pos (by assumption)]) (by decide)
          · refine int_eq ?_; unfold Cal.fitE; rw [if_neg (not_not_intro q1), if_neg (by omega), if_neg (by omega), if_pos (by assumption)]
        ·
          have q4 := Nrm.nrm h4
          refine Tr.skip ?_
          refine Fin.block ?_
          refine Fin.go ?_
          refine Tr.seq ?_
          refine Tr.regT ?_
          refine TO.op rfl rfl (by decide) (ok_build (rows := []) rfl bl80 zo80 trivial rfl) ?_
          refine TO.boxm rfl rfl (by decide) rfl (VL.le (vl rfl) (agg_cellsP _)) (fun b1 => ?_)
          refine TO.op rfl rfl (by decide) (ok_assign rfl (vl rfl)) ?_
          refine TO.nil ?_
          refine Fin.go ?_
          refine Tr.seq ?_
          refine Tr.seq ?_
          refine Tr.reg0 ?_
          refine Ch.op rfl rfl (by decide) (ok_move rfl (vl rfl)) ?_
          first
            | refine Ch.op rfl rfl (by decide) (ok_lenm rfl Try.underlying22 (vl rfl)) ?_
            | refine Ch.op rfl rfl (by decide) (ok_len rfl Try.underlying22 (vl rfl)) ?_
          refine Ch.op rfl rfl (by decide) (ok_move rfl (vl rfl)) ?_
          refine Ch.nil ?_
          refine Fin.go ?_
          refine Tr.block ?_
          refine Tr.loopR [(2, _), (4, _), (11, _), (38, _), (39, _)] ⟨⟨_, rfl, Pr.le_refl _⟩, ⟨_, rfl, Pr.le_refl _⟩, ⟨_, rfl, Pr.le_refl _⟩, ⟨_, rfl, Pr.le_refl _⟩, ⟨_, rfl, Pr.le_refl _⟩, trivial⟩ (fun k : Nat => [(40, int ((k : Nat) : Int))]) (fun k : Nat => Hp M0 w0 noS ([cellsRes true b1 80 (loadP c ((teams.zip days).take k))])) (fun k : Nat => k ≤ (teams).length ∧ (((teams.zip days).take k).all (fun p => c.may p.1 p.2) = true)) (fun k : Nat => (teams).length - k) 0 (⟨Nat.zero_le _, by simp⟩) ⟨⟨_, rfl, Pr.le_refl _⟩, trivial⟩ ((by rw [List.take_zero, loadP_zero]; exact fun _ _ h => h)) ?_
          rintro k ⟨hle_k, hinv_k⟩
          refine Tr.seq ?_
          refine Tr.reg0 ?_
          refine Ch.op rfl rfl (by decide) (ok_int rfl (vl rfl) (vl rfl) rfl) ?_
          refine Ch.nil ?_
          refine Fin.go ?_
          refine Tr.seq ?_
          refine Tr.cond rfl (fun h5 => ?_) (fun h5 => ?_)
          ·
            have q5 := Nrm.nrm h5
            have hk_k : k < (teams).length := lt_of_dec h5
            obtain ⟨n, hx_k⟩ := at_ hk_k
            obtain ⟨d, hd⟩ := at_ (l := days) (k := k) (by omega)
            refine Tr.skip ?_
            refine Fin.go ?_
            refine Tr.seq ?_
            refine Tr.block ?_
            refine Tr.seq ?_
            refine Tr.reg0 ?_
            refine Ch.op rfl rfl (by decide) (ok_move rfl (vl rfl)) ?_
            refine Ch.op rfl rfl (by decide) (ok_indexAddr rfl Try.underlying22 sz3 (vl rfl) (vl rfl) (by omega) (by first | exact row_at (by assumption) | exact row_atI (by assumption) | assumption)) ?_
            refine Ch.op rfl rfl (by decide) (ok_load1 rfl one3 (vl rfl)) ?_
            refine Ch.op rfl rfl (by decide) (ok_assign rfl (vl rfl)) ?_
            refine Ch.op rfl rfl (by decide) (ok_assign rfl (vl rfl)) ?_
            refine Ch.nil ?_
            refine Fin.go ?_
            refine Tr.seq ?_
            refine Tr.seq ?_
            refine Tr.reg1 mixed (by kernel_rfl) ?_
            refine Ch.op rfl rfl (by decide) (ok_loadA rfl agg27 sz27 (vl rfl) rfl rfl) ?_
            refine Ch.op rfl rfl (by decide) (ok_move rfl (vl rfl)) ?_
            refine Ch.op rfl rfl (by decide) (ok_move rfl (vl rfl)) ?_
            refine Ch.op rfl rfl (by decide) (ok_move rfl (vl rfl)) ?_
            refine Ch.op rfl rfl (by decide) (ok_indexAddr rfl Try.underlying22 sz3 (vl rfl) (vl rfl) (by omega) (by first | exact row_at (by assumption) | exact row_atI (by assumption) | assumption)) ?_
            refine Ch.op rfl rfl (by decide) (ok_load1 rfl one3 (vl rfl)) ?_
            refine Ch.op rfl rfl (by decide) (ok_call rfl (w_may) ⟨⟨_, rfl, Pr.le_refl _⟩, ⟨_, rfl, Pr.le_refl _⟩, ⟨_, rfl, Pr.le_refl _⟩, trivial⟩) ?_
            refine Ch.op rfl rfl (by decide) (ok_not rfl (vl rfl)) ?_
            refine Ch.nil ?_
            refine Fin.go ?_
            refine Tr.weak [(2, _), (4, _), (11, _), (12, _), (13, _), (38, _), (39, _), (40, _), (52, _)] ⟨⟨_, rfl, Pr.le_refl _⟩, ⟨_, rfl, Pr.le_refl _⟩, ⟨_, rfl, Pr.le_refl _⟩, ⟨_, rfl, Pr.le_refl _⟩, ⟨_, rfl, Pr.le_refl _⟩, ⟨_, rfl, Pr.le_refl _⟩, ⟨_, rfl, Pr.le_refl _⟩, ⟨_, rfl, Pr.le_refl _⟩, ⟨_, rfl, Pr.le_refl _⟩, trivial⟩ ?_
            refine Tr.cond rfl (fun h6 => ?_) (fun h6 => ?_)
            ·
              have q6 := Nrm.nrm h6
              refine Tr.seq ?_
              refine Tr.reg0 ?_
              refine Ch.op rfl rfl (by decide) (ok_assign rfl (vl rfl)) ?_
              refine Ch.op rfl rfl (by decide) (ok_assign rfl (vl rfl)) ?_
              refine Ch.nil ?_
              refine Fin.go ?_
              refine Tr.drop 0 ?_
              refine Tr.ret ?_
              refine Fin.then_ret ?_
              refine Fin.block_ret ?_
              refine Fin.then_ret ?_
              refine Fin.then_ret ?_
              refine Fin.block_ret ?_
              refine Fin.then_ret ?_
              refine Fin.ret2 rfl (OutW.bse _ _) rfl ?_ rfl ?_
              · exact loadR_err (by unfold Cal.fitE; rw [if_neg (not_not_intro q1), if_neg (by omega), if_neg (by omega), if_neg (ne_true (by assumption)), if_neg (all_no hx_k hd (by assumption))]) (by decide)
              · refine int_eq ?_; unfold Cal.fitE; rw [if_neg (not_not_intro q1), if_neg (by omega), if_neg (by omega), if_neg (ne_true (by assumption)), if_neg (all_no hx_k hd (by assumption))]
            ·
              have q6 := Nrm.nrm h6
              have hmay : c.may n d = true := by simpa using h6
              have hown : c.own = 0 := by assumption
              have hat := And.intro (may_at hmay) (at_lt (d := d) hown)
              have hn8 : 0 ≤ n ∧ n < 8 := has_lt hown (has_of (by assumption) (List.mem_append_left _ (List.mem_of_getElem? hx_k)))
              have hcnt : c.cnt ((teams.zip days).take k) ((c.at d).toNat * 8 + n.toNat) ≤ 24 := Nat.le_trans (cnt_le _ _ _) (by simp; omega)
              refine Tr.skip ?_
              refine Fin.go ?_
              refine Tr.regX mixed [none, none, none, none, none, none, none, none, none, none, none, some (0, 0, false, 0), none, none, none, none, some (0, 0, true, 0)] (by kernel_rfl) ?_
              refine Cx.op rfl rfl (by decide) (fun _ => ok_move rfl (vl rfl)) ?_
              refine Cx.op rfl rfl (by decide) (fun _ => ok_loadA rfl agg27 sz27 (vl rfl) rfl rfl) ?_
              refine Cx.op rfl rfl (by decide) (fun _ => ok_move rfl (vl rfl)) ?_
              refine Cx.op rfl rfl (by decide) (fun _ => ok_move rfl (vl rfl)) ?_
              refine Cx.op rfl rfl (by decide) (fun _ => ok_indexAddr rfl Try.underlying22 sz3 (vl rfl) (vl rfl) (by omega) (by first | exact row_at (by assumption) | exact row_atI (by assumption) | assumption)) ?_
              refine Cx.op rfl rfl (by decide) (fun _ => ok_load1 rfl one3 (vl rfl)) ?_
              refine Cx.op rfl rfl (by decide) (fun _ => ok_call rfl (w_at) ⟨⟨_, rfl, Pr.le_refl _⟩, ⟨_, rfl, Pr.le_refl _⟩, trivial⟩) ?_
              refine Cx.op rfl rfl (by decide) (fun _ => ok_move rfl (vl rfl)) ?_
              refine Cx.op rfl rfl (by decide) (fun _ => okp_nilCheck rfl (vl rfl)) ?_
              refine Cx.op rfl rfl (by decide) (fun _ => okp_indexArr rfl Try.underlying80 sz66 (vl rfl) (vl rfl) (by omega) (by omega)) ?_
              refine Cx.op rfl rfl (by decide) (fun _ => okp_indexArr rfl Try.underlying66 sz3 (vl rfl) (vl rfl) (by omega) (by omega)) ?_
              refine Cx.rd 0 rfl rfl rfl (by decide) (rd_load1 rfl one3 (vl rfl) (loadP_get c _ hat hn8)) ?_
              first
                | (refine Cx.op rfl rfl (by decide) (fun _ => ok_add rfl (vl rfl) (vl rfl) ?hin) ?_; case hin => unfold InI; omega)
                | refine Cx.op rfl rfl (by decide) (fun _ => ok_int rfl (vl rfl) (vl rfl) rfl) ?_
              refine Cx.op rfl rfl (by decide) (fun _ => okp_nilCheck rfl (vl rfl)) ?_
              refine Cx.op rfl rfl (by decide) (fun _ => okp_indexArr rfl Try.underlying80 sz66 (vl rfl) (vl rfl) (by omega) (by omega)) ?_
              refine Cx.op rfl rfl (by decide) (fun _ => okp_indexArr rfl Try.underlying66 sz3 (vl rfl) (vl rfl) (by omega) (by omega)) ?_
              refine Cx.ef0 0 rfl rfl (ef_store rfl rfl (vl rfl) (VL.le (vl rfl) (one_cellsP _)) sz3 rfl (by rw [loadP_length]; omega) (loadP_step c _ hat hn8)) ?_
              refine Cx.nil ⟨rfl, ?_⟩
              refine FinX.done (AllC.cons (AllC.map _)) ?_
              refine Fin.block ?_
              refine Fin.go ?_
              refine Tr.weak [(2, _), (4, _), (11, _), (38, _), (39, _), (40, _)] ⟨⟨_, rfl, Pr.le_refl _⟩, ⟨_, rfl, Pr.le_refl _⟩, ⟨_, rfl, Pr.le_refl _⟩, ⟨_, rfl, Pr.le_refl _⟩, ⟨_, rfl, Pr.le_refl _⟩, ⟨_, rfl, Pr.le_refl _⟩, trivial⟩ ?_
              refine Tr.reg0 ?_
              first
                | (refine Ch.op rfl rfl (by decide) (ok_add rfl (vl rfl) (vl rfl) ?hin) ?_; case hin => unfold InI; omega)
                | refine Ch.op rfl rfl (by decide) (ok_int rfl (vl rfl) (vl rfl) rfl) ?_
              refine Ch.op rfl rfl (by decide) (ok_move rfl (vl rfl)) ?_
              refine Ch.nil ?_
              exact Fin.fam (k + 1) ⟨⟨hk_k, (by rw [take_zip hx_k hd, List.all_append, hinv_k]; simp; assumption)⟩, by omega⟩ ⟨⟨_, rfl, int_succ k⟩, ⟨_, rfl, Pr.le_refl _⟩, ⟨_, rfl, Pr.le_refl _⟩, ⟨_, rfl, Pr.le_refl _⟩, ⟨_, rfl, Pr.le_refl _⟩, ⟨_, rfl, Pr.le_refl _⟩, trivial⟩ ((by rw [take_zip hx_k hd]; exact fun _ _ h => h))
          ·
            have q5 := Nrm.nrm h5
            have he_k : k = (teams).length := by have := ge_of_dec h5; omega
            subst he_k
            refine Tr.exit ?_
            refine Fin.then_exit ?_
            refine Fin.then_exit ?_
            refine Fin.block_here ?_
            refine Fin.go ?_
            refine Tr.seq ?_
            refine Tr.reg0 ?_
            refine Ch.op rfl rfl (by decide) (ok_move rfl (vl rfl)) ?_
            refine Ch.op rfl rfl (by decide) (ok_assign rfl (vl rfl)) ?_
            refine Ch.op rfl rfl (by decide) (ok_assign rfl (vl rfl)) ?_
            refine Ch.nil ?_
            refine Fin.go ?_
            refine Tr.ret ?_
            refine Fin.freeze 0 8 rfl rfl ?_
            refine Fin.ret2 rfl (OutW.bse _ _) rfl ?_ rfl ?_
            · rw [loadR_ok (by unfold Cal.fitE; rw [if_neg (not_not_intro q1), if_neg (by omega), if_neg (by omega), if_neg (ne_true (by assumption)), if_pos (all_yes hinv_k (by omega))])]; exact Pr.le_of_eq (by rw [List.take_of_length_le (by simp; omega)])
            · refine int_eq ?_; unfold Cal.fitE; rw [if_neg (not_not_intro q1), if_neg (by omega), if_neg (by omega), if_neg (ne_true (by assumption)), if_pos (all_yes hinv_k (by omega))]
theorem e_load : Entry Try.prog 32 := ⟨_, Try.func32, rfl, rfl⟩
end Go.Proofs.Ytacifhfelijekaa
