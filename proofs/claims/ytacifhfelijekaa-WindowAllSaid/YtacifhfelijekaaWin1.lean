/-
  What the functions named below compute, proved from their text; printed by a program of our own.
-/
import Derived.Test.YtacifhfelijekaaTypes
import Derived.Test.YtacifhfelijekaaSlices
namespace Go.Proofs.Ytacifhfelijekaa
open Go Go.RowKit Cp

structure Win where
  lo : Int
  hi : Int
  teams : List Int
structure Cal where
  wins : List Win
  team : List Int
  room : List Int

def encWin (w : Win) : List Pr := [int w.lo, int w.hi, ints w.teams]
abbrev winsP (l : List Win) : Pr := slice 3 (l.map encWin)
def calP (c : Cal) : Pr := agg [winsP c.wins, ints c.team, ints c.room]
instance one_ints (l : List Int) : One (ints l) := one_slice _ _

def inWin (day : Int) (w : Win) : Bool := decide (w.lo ≤ day) && decide (day < w.hi)
def Cal.has (c : Cal) (n : Int) : Bool := decide (0 ≤ n) && decide (n < c.room.length)
def Cal.at (c : Cal) (day : Int) : Int := idx (inWin day) c.wins
def badRoom (n : Int) : Bool := decide (n < 0) || decide (n > 24)
def badWin (w : Win) : Bool := decide (w.lo < 0) || decide (w.lo ≥ w.hi) || decide (w.hi > 40001)
def OrdT (l : List Int) : Prop := ∀ (j : Nat) a b, l[j]? = some a → l[j + 1]? = some b → a < b
def OrdW (l : List Win) : Prop := ∀ (j : Nat) a b, l[j]? = some a → l[j + 1]? = some b → a.hi ≤ b.lo
open Classical in
noncomputable def Cal.check (c : Cal) (endpoints : Int) : Int :=
  if 32 < c.wins.length ∨ 8 < c.room.length then 3
  else if c.room.any badRoom then 2
  else if c.wins.any badWin then 47
  else if ¬ (OrdW c.wins ∧ ∀ w ∈ c.wins, OrdT w.teams) then 6
  else if c.wins.any (fun w => w.teams.any fun n => !c.has n) then 2
  else if (c.team.length : Int) ≠ endpoints ∨ c.team.any (fun n => !c.has n) then 1
  else 0
noncomputable def Cal.own (c : Cal) : Int := c.check c.team.length
theorem idx_range {β : Type} (p : β → Bool) (l : List β) : -1 ≤ idx p l ∧ idx p l < l.length := by
  unfold idx
  cases h : l.findIdx? p with
  | none => simp; omega
  | some i =>
    rw [List.findIdx?_eq_some_iff_getElem] at h
    obtain ⟨h1, _⟩ := h
    simp; omega
theorem idx_at {β : Type} {p : β → Bool} {l : List β} (h : 0 ≤ idx p l) : ∃ x, l[(idx p l).toNat]? = some x ∧ p x = true := by
  unfold idx at *
  cases h' : l.findIdx? p with
  | none => rw [h'] at h; simp at h
  | some i =>
    rw [List.findIdx?_eq_some_iff_getElem] at h'
    obtain ⟨h1, h2, _⟩ := h'
    exact ⟨l[i], by simp, h2⟩
/-- The window of a day. -/
def Cal.winAt (c : Cal) (day : Int) : Option Win := c.wins.find? (inWin day)
theorem find_idx {β : Type} (p : β → Bool) (l : List β) : l.find? p = if 0 ≤ idx p l then l[(idx p l).toNat]? else none := by
  unfold idx
  cases h : l.findIdx? p with
  | none =>
    rw [List.findIdx?_eq_none_iff] at h
    rw [if_neg (by simp), List.find?_eq_none]
    intro x hx; simpa using h x hx
  | some i =>
    rw [List.findIdx?_eq_some_iff_getElem] at h
    obtain ⟨h1, h2, h3⟩ := h
    simp only [Int.natCast_nonneg, if_true, Int.toNat_natCast]
    rw [List.getElem?_eq_getElem h1, List.find?_eq_some_iff_getElem]
    exact ⟨h2, i, h1, rfl, fun j hj => by simpa using h3 j hj⟩
def Cal.may (c : Cal) (n day : Int) : Bool := match c.winAt day with | some w => w.teams.any (fun x => n == x) | none => false

theorem w_at1 {w : Win} {day : Int}  : Fun Try.prog 56 [agg (encWin w), ref [int day]] (bool (inWin day w)) := by
  refine Fun.of Try.func56 rfl rfl (by exact Nat.le_of_ble_eq_true rfl) fun M0 w0 => ?_
  refine Tr.seq ?_
  refine Tr.reg0 ?_
  refine Ch.op rfl rfl (by decide) (ok_box rfl (VL.le (vl rfl) (agg_cellsP _))) ?_
  refine Ch.op rfl rfl (by decide) (ok_assign rfl (vl rfl)) ?_
  refine Ch.nil ?_
  refine Fin.go ?_
  refine Tr.seq ?_
  refine Tr.reg0 ?_
  refine Ch.op rfl rfl (by decide) (ok_fieldAddr rfl fo45_0 (vl rfl) rfl) ?_
  refine Ch.op rfl rfl (by decide) (ok_fieldAddr rfl fo43_0 (vl rfl) rfl) ?_
  refine Ch.op rfl rfl (by decide) (ok_load1 rfl one3 (vl rfl)) ?_
  refine Ch.op rfl rfl (by decide) (ok_load1 rfl one3 (vl rfl)) ?_
  refine Ch.op rfl rfl (by decide) (ok_int rfl (vl rfl) (vl rfl) rfl) ?_
  refine Ch.op rfl rfl (by decide) (ok_move rfl (vl rfl)) ?_
  refine Ch.cases 9 rfl (fun h1 => ?_) (fun h1 => ?_)
  ·
    have q1 := Nrm.nrm h1
    refine Ch.yes rfl rfl rfl h1 rfl (by decide) (ok_load1 rfl one3 (vl rfl)) ?_
    refine Ch.yes rfl rfl rfl h1 rfl (by decide) (ok_fieldAddr rfl fo45_0 (vl rfl) rfl) ?_
    refine Ch.yes rfl rfl rfl h1 rfl (by decide) (ok_fieldAddr rfl fo43_1 (vl rfl) rfl) ?_
    refine Ch.yes rfl rfl rfl h1 rfl (by decide) (ok_load1 rfl one3 (vl rfl)) ?_
    refine Ch.yes rfl rfl rfl h1 rfl (by decide) (ok_int rfl (vl rfl) (vl rfl) rfl) ?_
    refine Ch.op rfl rfl (by decide) (ok_pick_t rfl (vl rfl) h1 (vl rfl)) ?_
    refine Ch.op rfl rfl (by decide) (ok_assign rfl (vl rfl)) ?_
    refine Ch.nil ?_
    refine Fin.go ?_
    refine Tr.weak [(3, _)] ⟨⟨_, rfl, Pr.le_refl _⟩, trivial⟩ ?_
    refine Tr.ret ?_
    refine Fin.ret1 rfl (OutW.bse _ _) rfl ?_
    · exact bool_eq (by simp [inWin, h1])
  ·
    have q1 := Nrm.nrm h1
    refine Ch.no rfl rfl rfl (ne_true h1) rfl (by decide) ?_
    refine Ch.no rfl rfl rfl (ne_true h1) rfl (by decide) ?_
    refine Ch.no rfl rfl rfl (ne_true h1) rfl (by decide) ?_
    refine Ch.no rfl rfl rfl (ne_true h1) rfl (by decide) ?_
    refine Ch.no rfl rfl rfl (ne_true h1) rfl (by decide) ?_
    refine Ch.op rfl rfl (by decide) (ok_pick_f rfl (vl rfl) h1 (vl rfl)) ?_
    refine Ch.op rfl rfl (by decide) (ok_assign rfl (vl rfl)) ?_
    refine Ch.nil ?_
    refine Fin.go ?_
    refine Tr.weak [(3, _)] ⟨⟨_, rfl, Pr.le_refl _⟩, trivial⟩ ?_
    refine Tr.ret ?_
    refine Fin.ret1 rfl (OutW.bse _ _) rfl ?_
    · exact bool_eq (by simp [inWin, h1])
theorem e_at1 : Entry Try.prog 56 := ⟨_, Try.func56, rfl, rfl⟩
theorem w_team {c : Cal} {n : Int}  : Fun Try.prog 40 [calP c, int n] (bool (c.has n)) := by
  refine Fun.of Try.func40 rfl rfl (by exact Nat.le_of_ble_eq_true rfl) fun M0 w0 => ?_
  refine Tr.seq ?_
  refine Tr.reg0 ?_
  refine Ch.op rfl rfl (by decide) (ok_box rfl (VL.le (vl rfl) (agg_cellsP _))) ?_
  refine Ch.op rfl rfl (by decide) (ok_assign rfl (vl rfl)) ?_
  refine Ch.nil ?_
  refine Fin.go ?_
  refine Tr.seq ?_
  refine Tr.reg0 ?_
  refine Ch.op rfl rfl (by decide) (ok_move rfl (vl rfl)) ?_
  refine Ch.op rfl rfl (by decide) (ok_int rfl (vl rfl) (vl rfl) rfl) ?_
  refine Ch.op rfl rfl (by decide) (ok_move rfl (vl rfl)) ?_
  refine Ch.cases 7 rfl (fun h1 => ?_) (fun h1 => ?_)
  ·
    have q1 := Nrm.nrm h1
    refine Ch.yes rfl rfl rfl h1 rfl (by decide) (ok_move rfl (vl rfl)) ?_
    refine Ch.yes rfl rfl rfl h1 rfl (by decide) (ok_fieldAddr rfl fo27_2 (vl rfl) rfl) ?_
    refine Ch.yes rfl rfl rfl h1 rfl (by decide) (ok_load1 rfl one22 (vl rfl)) ?_
    first
      | refine Ch.yes rfl rfl rfl h1 rfl (by decide) (ok_lenm rfl Try.underlying22 (vl rfl)) ?_
      | refine Ch.yes rfl rfl rfl h1 rfl (by decide) (ok_len rfl Try.underlying22 (vl rfl)) ?_
    refine Ch.yes rfl rfl rfl h1 rfl (by decide) (ok_int rfl (vl rfl) (vl rfl) rfl) ?_
    refine Ch.op rfl rfl (by decide) (ok_pick_t rfl (vl rfl) h1 (vl rfl)) ?_
    refine Ch.op rfl rfl (by decide) (ok_assign rfl (vl rfl)) ?_
    refine Ch.nil ?_
    refine Fin.go ?_
    refine Tr.ret ?_
    refine Fin.ret1 rfl (OutW.bse _ _) rfl ?_
    · exact bool_eq (by simp [Cal.has]; simp at h1; omega)
  ·
    have q1 := Nrm.nrm h1
    refine Ch.no rfl rfl rfl (ne_true h1) rfl (by decide) ?_
    refine Ch.no rfl rfl rfl (ne_true h1) rfl (by decide) ?_
    refine Ch.no rfl rfl rfl (ne_true h1) rfl (by decide) ?_
    refine Ch.no rfl rfl rfl (ne_true h1) rfl (by decide) ?_
    refine Ch.no rfl rfl rfl (ne_true h1) rfl (by decide) ?_
    refine Ch.op rfl rfl (by decide) (ok_pick_f rfl (vl rfl) h1 (vl rfl)) ?_
    refine Ch.op rfl rfl (by decide) (ok_assign rfl (vl rfl)) ?_
    refine Ch.nil ?_
    refine Fin.go ?_
    refine Tr.ret ?_
    refine Fin.ret1 rfl (OutW.bse _ _) rfl ?_
    · exact bool_eq (by simp [Cal.has]; simp at h1; omega)
theorem e_team : Entry Try.prog 40 := ⟨_, Try.func40, rfl, rfl⟩
theorem w_IndexFuncW {l : List Win} {p : Win → Bool}  : Fun Try.prog 55 [winsP l, clo Try.prog (fun x : Win => [agg (encWin x)]) (fun x => bool (p x))] (int (idx p l)) := by
  refine Fun.of Try.func55 rfl rfl (by exact Nat.le_of_ble_eq_true rfl) fun M0 w0 => ?_
  refine Tr.lenm 0 rfl fun hlm_0 => ?_
  refine Tr.seq ?_
  refine Tr.reg0 ?_
  refine Ch.op rfl rfl (by decide) (ok_assign rfl (vl rfl)) ?_
  refine Ch.nil ?_
  refine Fin.go ?_
  refine Tr.seq ?_
  refine Tr.seq ?_
  refine Tr.reg0 ?_
  refine Ch.op rfl rfl (by decide) (ok_move rfl (vl rfl)) ?_
  first
    | refine Ch.op rfl rfl (by decide) (ok_lenm rfl Try.underlying25 (vl rfl)) ?_
    | refine Ch.op rfl rfl (by decide) (ok_len rfl Try.underlying25 (vl rfl)) ?_
  refine Ch.op rfl rfl (by decide) (ok_move rfl (vl rfl)) ?_
  refine Ch.nil ?_
  refine Fin.go ?_
  refine Tr.block ?_
  refine Tr.loopw [(0, _), (1, _), (7, _)] ⟨⟨_, rfl, Pr.le_refl _⟩, ⟨_, rfl, Pr.le_refl _⟩, ⟨_, rfl, Pr.le_refl _⟩, trivial⟩ (fun k : Nat => [(8, int ((k : Nat) : Int))]) (fun k : Nat => k ≤ (l).length ∧ (∀ j y, j < k → l[j]? = some y → p y = false)) (fun k : Nat => (l).length - k) 0 (⟨Nat.zero_le _, fun j y hj => absurd hj (by omega)⟩) ⟨⟨_, rfl, Pr.le_refl _⟩, trivial⟩ ?_
  rintro k ⟨hle_k, hinv_k⟩
  refine Tr.seq ?_
  refine Tr.reg0 ?_
  refine Ch.op rfl rfl (by decide) (ok_int rfl (vl rfl) (vl rfl) rfl) ?_
  refine Ch.nil ?_
  refine Fin.go ?_
  refine Tr.seq ?_
  refine Tr.cond rfl (fun h1 => ?_) (fun h1 => ?_)
  ·
    have q1 := Nrm.nrm h1
    have hk_k : k < (l).length := lt_of_dec h1
    obtain ⟨x, hx_k⟩ := at_ hk_k
    refine Tr.skip ?_
    refine Fin.go ?_
    refine Tr.seq ?_
    refine Tr.block ?_
    refine Tr.seq ?_
    refine Tr.reg0 ?_
    refine Ch.op rfl rfl (by decide) (ok_move rfl (vl rfl)) ?_
    refine Ch.op rfl rfl (by decide) (ok_assign rfl (vl rfl)) ?_
    refine Ch.nil ?_
    refine Fin.go ?_
    refine Tr.seq ?_
    refine Tr.reg0 ?_
    refine Ch.op rfl rfl (by decide) (ok_move rfl (vl rfl)) ?_
    refine Ch.op rfl rfl (by decide) (ok_move rfl (vl rfl)) ?_
    refine Ch.op rfl rfl (by decide) (ok_move rfl (vl rfl)) ?_
    refine Ch.op rfl rfl (by decide) (ok_indexAddr rfl Try.underlying25 sz45 (vl rfl) (vl rfl) (by omega) (by first | exact row_at (by assumption) | exact row_atI (by assumption) | assumption)) ?_
    refine Ch.op rfl rfl (by decide) (ok_loadA rfl agg45 sz45 (vl rfl) rfl rfl) ?_
    refine Ch.op rfl rfl (by decide) (ok_callc x rfl (vl rfl) ⟨⟨_, rfl, Pr.le_refl _⟩, trivial⟩) ?_
    refine Ch.nil ?_
    refine Fin.go ?_
    refine Tr.cond rfl (fun h2 => ?_) (fun h2 => ?_)
    ·
      have q2 := Nrm.nrm h2
      refine Tr.seq ?_
      refine Tr.reg0 ?_
      refine Ch.op rfl rfl (by decide) (ok_move rfl (vl rfl)) ?_
      refine Ch.op rfl rfl (by decide) (ok_assign rfl (vl rfl)) ?_
      refine Ch.nil ?_
      refine Fin.go ?_
      refine Tr.weak [(4, _)] ⟨⟨_, rfl, Pr.le_refl _⟩, trivial⟩ ?_
      refine Tr.ret ?_
      refine Fin.block_ret ?_
      refine Fin.then_ret ?_
      refine Fin.then_ret ?_
      refine Fin.block_ret ?_
      refine Fin.then_ret ?_
      refine Fin.ret1 rfl (OutW.bse _ _) rfl ?_
      · exact int_eq (idx_found hx_k (by assumption) hinv_k)
    ·
      have q2 := Nrm.nrm h2
      refine Tr.skip ?_
      refine Fin.block ?_
      refine Fin.go ?_
      refine Tr.reg0 ?_
      first
        | (refine Ch.op rfl rfl (by decide) (ok_add rfl (vl rfl) (vl rfl) ?hin) ?_; case hin => unfold InI; omega)
        | refine Ch.op rfl rfl (by decide) (ok_int rfl (vl rfl) (vl rfl) rfl) ?_
      refine Ch.op rfl rfl (by decide) (ok_move rfl (vl rfl)) ?_
      refine Ch.nil ?_
      exact Fin.fam_same (k + 1) ⟨⟨hk_k, step_no hx_k (by assumption) hinv_k⟩, by omega⟩ ⟨⟨_, rfl, int_succ k⟩, ⟨_, rfl, Pr.le_refl _⟩, ⟨_, rfl, Pr.le_refl _⟩, ⟨_, rfl, Pr.le_refl _⟩, trivial⟩
  ·
    have q1 := Nrm.nrm h1
    have he_k : k = (l).length := by have := ge_of_dec h1; omega
    subst he_k
    refine Tr.exit ?_
    refine Fin.then_exit ?_
    refine Fin.then_exit ?_
    refine Fin.block_here ?_
    refine Fin.go ?_
    refine Tr.seq ?_
    refine Tr.reg0 ?_
    refine Ch.op rfl rfl (by decide) (ok_assign rfl (vl rfl)) ?_
    refine Ch.nil ?_
    refine Fin.go ?_
    refine Tr.ret ?_
    refine Fin.ret1 rfl (OutW.bse _ _) rfl ?_
    · exact int_eq (idx_none hinv_k)
theorem e_IndexFuncW : Entry Try.prog 55 := ⟨_, Try.func55, rfl, rfl⟩
theorem w_ContainsFuncW {l : List Win} {p : Win → Bool}  : Fun Try.prog 45 [winsP l, clo Try.prog (fun x : Win => [agg (encWin x)]) (fun x => bool (p x))] (bool (l.any p)) := by
  refine Fun.of Try.func45 rfl rfl (by exact Nat.le_of_ble_eq_true rfl) fun M0 w0 => ?_
  refine Tr.seq ?_
  refine Tr.reg0 ?_
  refine Ch.op rfl rfl (by decide) (ok_assign rfl (vl rfl)) ?_
  refine Ch.nil ?_
  refine Fin.go ?_
  refine Tr.seq ?_
  refine Tr.reg0 ?_
  refine Ch.op rfl rfl (by decide) (ok_move rfl (vl rfl)) ?_
  refine Ch.op rfl rfl (by decide) (ok_move rfl (vl rfl)) ?_
  refine Ch.op rfl rfl (by decide) (ok_call rfl (w_IndexFuncW) ⟨⟨_, rfl, Pr.le_refl _⟩, ⟨_, rfl, Pr.le_refl _⟩, trivial⟩) ?_
  refine Ch.op rfl rfl (by decide) (ok_int rfl (vl rfl) (vl rfl) rfl) ?_
  refine Ch.op rfl rfl (by decide) (ok_assign rfl (vl rfl)) ?_
  refine Ch.nil ?_
  refine Fin.go ?_
  refine Tr.ret ?_
  refine Fin.ret1 rfl (OutW.bse _ _) rfl ?_
  · exact bool_eq (idx_any p l)
theorem e_ContainsFuncW : Entry Try.prog 45 := ⟨_, Try.func45, rfl, rfl⟩
theorem w_at {c : Cal} {day : Int}  : Fun Try.prog 36 [calP c, int day] (int (c.at day)) := by
  refine Fun.of Try.func36 rfl rfl (by exact Nat.le_of_ble_eq_true rfl) fun M0 w0 => ?_
  refine Tr.seq ?_
  refine Tr.reg0 ?_
  refine Ch.op rfl rfl (by decide) (ok_box rfl (VL.le (vl rfl) (agg_cellsP _))) ?_
  refine Ch.op rfl rfl (by decide) (ok_box rfl (VL.le (vl rfl) (one_cellsP _))) ?_
  refine Ch.op rfl rfl (by decide) (ok_assign rfl (vl rfl)) ?_
  refine Ch.nil ?_
  refine Fin.go ?_
  refine Tr.seq ?_
  refine Tr.reg0 ?_
  refine Ch.op rfl rfl (by decide) (ok_fieldAddr rfl fo27_0 (vl rfl) rfl) ?_
  refine Ch.op rfl rfl (by decide) (ok_load1 rfl one25 (vl rfl)) ?_
  refine Ch.op rfl rfl (by decide) (ok_makeFunc rfl rfl) ?_
  refine Ch.op rfl rfl (by decide) (ok_call rfl (w_IndexFuncW (p := inWin day)) ⟨⟨_, rfl, Pr.le_refl _⟩, ⟨_, rfl, fn_le_clo (w_at1 (w := ⟨0, 0, []⟩) (day := 0)).1 (fun x => w_at1 (w := x))⟩, trivial⟩) ?_
  refine Ch.op rfl rfl (by decide) (ok_assign rfl (vl rfl)) ?_
  refine Ch.nil ?_
  refine Fin.go ?_
  refine Tr.ret ?_
  refine Fin.ret1 rfl (OutW.bse _ _) rfl ?_
  · first | exact Pr.le_refl _ | (refine int_eq ?_; simp_all; done) | (refine bool_eq ?_; simp_all; done) | (refine bool_eq ?_; simp_all; omega) | (refine int_eq ?_; omega)
theorem e_at : Entry Try.prog 36 := ⟨_, Try.func36, rfl, rfl⟩
theorem w_may {c : Cal} {n day : Int}  : Fun Try.prog 42 [calP c, int n, int day] (bool (c.may n day)) := by
  refine Fun.of Try.func42 rfl rfl (by exact Nat.le_of_ble_eq_true rfl) fun M0 w0 => ?_
  refine Tr.seq ?_
  refine Tr.reg0 ?_
  refine Ch.op rfl rfl (by decide) (ok_box rfl (VL.le (vl rfl) (agg_cellsP _))) ?_
  refine Ch.op rfl rfl (by decide) (ok_assign rfl (vl rfl)) ?_
  refine Ch.nil ?_
  refine Fin.go ?_
  refine Tr.seq ?_
  refine Tr.reg0 ?_
  refine Ch.op rfl rfl (by decide) (ok_loadA rfl agg27 sz27 (vl rfl) rfl rfl) ?_
  refine Ch.op rfl rfl (by decide) (ok_move rfl (vl rfl)) ?_
  refine Ch.op rfl rfl (by decide) (ok_call rfl (w_at) ⟨⟨_, rfl, Pr.le_refl _⟩, ⟨_, rfl, Pr.le_refl _⟩, trivial⟩) ?_
  refine Ch.op rfl rfl (by decide) (ok_assign rfl (vl rfl)) ?_
  refine Ch.nil ?_
  refine Fin.go ?_
  refine Tr.seq ?_
  refine Tr.reg0 ?_
  refine Ch.op rfl rfl (by decide) (ok_move rfl (vl rfl)) ?_
  refine Ch.op rfl rfl (by decide) (ok_int rfl (vl rfl) (vl rfl) rfl) ?_
  refine Ch.op rfl rfl (by decide) (ok_move rfl (vl rfl)) ?_
  refine Ch.cases 13 rfl (fun h1 => ?_) (fun h1 => ?_)
  ·
    have q1 := Nrm.nrm h1
    obtain ⟨x, hx, hp⟩ := idx_at (p := inWin day) (l := c.wins) q1
    refine Ch.yes rfl rfl rfl h1 rfl (by decide) (ok_fieldAddr rfl fo27_0 (vl rfl) rfl) ?_
    refine Ch.yes rfl rfl rfl h1 rfl (by decide) (ok_load1 rfl one25 (vl rfl)) ?_
    refine Ch.yes rfl rfl rfl h1 rfl (by decide) (ok_move rfl (vl rfl)) ?_
    refine Ch.yes rfl rfl rfl h1 rfl (by decide) (ok_indexAddr rfl Try.underlying25 sz45 (vl rfl) (vl rfl) (by omega) (row_atI hx)) ?_
    refine Ch.yes rfl rfl rfl h1 rfl (by decide) (ok_fieldAddr rfl fo45_1 (vl rfl) rfl) ?_
    refine Ch.yes rfl rfl rfl h1 rfl (by decide) (ok_load1 rfl one22 (vl rfl)) ?_
    refine Ch.yes rfl rfl rfl h1 rfl (by decide) (ok_move rfl (vl rfl)) ?_
    refine Ch.yes rfl rfl rfl h1 rfl (by decide) (ok_call rfl (w_ContainsI) ⟨⟨_, rfl, Pr.le_refl _⟩, ⟨_, rfl, Pr.le_refl _⟩, trivial⟩) ?_
    refine Ch.op rfl rfl (by decide) (ok_pick_t rfl (vl rfl) h1 (vl rfl)) ?_
    refine Ch.op rfl rfl (by decide) (ok_assign rfl (vl rfl)) ?_
    refine Ch.nil ?_
    refine Fin.go ?_
    refine Tr.weak [(6, _)] ⟨⟨_, rfl, Pr.le_refl _⟩, trivial⟩ ?_
    refine Tr.ret ?_
    refine Fin.ret1 rfl (OutW.bse _ _) rfl ?_
    · exact bool_eq (by have h2 := find_idx (inWin day) c.wins; rw [if_pos (by unfold Cal.at at q1; exact q1), hx] at h2; unfold Cal.may Cal.winAt; rw [h2])
  ·
    have q1 := Nrm.nrm h1
    refine Ch.no rfl rfl rfl (ne_true h1) rfl (by decide) ?_
    refine Ch.no rfl rfl rfl (ne_true h1) rfl (by decide) ?_
    refine Ch.no rfl rfl rfl (ne_true h1) rfl (by decide) ?_
    refine Ch.no rfl rfl rfl (ne_true h1) rfl (by decide) ?_
    refine Ch.no rfl rfl rfl (ne_true h1) rfl (by decide) ?_
    refine Ch.no rfl rfl rfl (ne_true h1) rfl (by decide) ?_
    refine Ch.no rfl rfl rfl (ne_true h1) rfl (by decide) ?_
    refine Ch.no rfl rfl rfl (ne_true h1) rfl (by decide) ?_
    refine Ch.op rfl rfl (by decide) (ok_pick_f rfl (vl rfl) h1 (vl rfl)) ?_
    refine Ch.op rfl rfl (by decide) (ok_assign rfl (vl rfl)) ?_
    refine Ch.nil ?_
    refine Fin.go ?_
    refine Tr.weak [(6, _)] ⟨⟨_, rfl, Pr.le_refl _⟩, trivial⟩ ?_
    refine Tr.ret ?_
    refine Fin.ret1 rfl (OutW.bse _ _) rfl ?_
    · exact bool_eq (by have h2 := find_idx (inWin day) c.wins; rw [if_neg (by unfold Cal.at at q1; omega)] at h2; unfold Cal.may Cal.winAt; rw [h2])
theorem e_may : Entry Try.prog 42 := ⟨_, Try.func42, rfl, rfl⟩
theorem w_Check1 {n : Int}  : Fun Try.prog 44 [int n] (bool (badRoom n)) := by
  refine Fun.of Try.func44 rfl rfl (by exact Nat.le_of_ble_eq_true rfl) fun M0 w0 => ?_
  refine Tr.seq ?_
  refine Tr.reg0 ?_
  refine Ch.op rfl rfl (by decide) (ok_assign rfl (vl rfl)) ?_
  refine Ch.nil ?_
  refine Fin.go ?_
  refine Tr.seq ?_
  refine Tr.reg0 ?_
  refine Ch.op rfl rfl (by decide) (ok_move rfl (vl rfl)) ?_
  refine Ch.op rfl rfl (by decide) (ok_int rfl (vl rfl) (vl rfl) rfl) ?_
  refine Ch.op rfl rfl (by decide) (ok_move rfl (vl rfl)) ?_
  refine Ch.cases 5 rfl (fun h1 => ?_) (fun h1 => ?_)
  ·
    have q1 := Nrm.nrm h1
    refine Ch.no rfl rfl rfl (ne_false h1) rfl (by decide) ?_
    refine Ch.no rfl rfl rfl (ne_false h1) rfl (by decide) ?_
    refine Ch.op rfl rfl (by decide) (ok_pick_t rfl (vl rfl) h1 (vl rfl)) ?_
    refine Ch.op rfl rfl (by decide) (ok_assign rfl (vl rfl)) ?_
    refine Ch.nil ?_
    refine Fin.go ?_
    refine Tr.ret ?_
    refine Fin.ret1 rfl (OutW.bse _ _) rfl ?_
    · exact bool_eq (by simp [badRoom, h1])
  ·
    have q1 := Nrm.nrm h1
    refine Ch.yes rfl rfl rfl h1 rfl (by decide) (ok_move rfl (vl rfl)) ?_
    refine Ch.yes rfl rfl rfl h1 rfl (by decide) (ok_int rfl (vl rfl) (vl rfl) rfl) ?_
    refine Ch.op rfl rfl (by decide) (ok_pick_f rfl (vl rfl) h1 (vl rfl)) ?_
    refine Ch.op rfl rfl (by decide) (ok_assign rfl (vl rfl)) ?_
    refine Ch.nil ?_
    refine Fin.go ?_
    refine Tr.ret ?_
    refine Fin.ret1 rfl (OutW.bse _ _) rfl ?_
    · exact bool_eq (by simp [badRoom, h1])
theorem e_Check1 : Entry Try.prog 44 := ⟨_, Try.func44, rfl, rfl⟩
theorem w_Check2 {w : Win}  : Fun Try.prog 46 [agg (encWin w)] (bool (badWin w)) := by
  refine Fun.of Try.func46 rfl rfl (by exact Nat.le_of_ble_eq_true rfl) fun M0 w0 => ?_
  refine Tr.seq ?_
  refine Tr.reg0 ?_
  refine Ch.op rfl rfl (by decide) (ok_box rfl (VL.le (vl rfl) (agg_cellsP _))) ?_
  refine Ch.op rfl rfl (by decide) (ok_assign rfl (vl rfl)) ?_
  refine Ch.nil ?_
  refine Fin.go ?_
  refine Tr.seq ?_
  refine Tr.reg0 ?_
  refine Ch.op rfl rfl (by decide) (ok_fieldAddr rfl fo45_0 (vl rfl) rfl) ?_
  refine Ch.op rfl rfl (by decide) (ok_fieldAddr rfl fo43_0 (vl rfl) rfl) ?_
  refine Ch.op rfl rfl (by decide) (ok_load1 rfl one3 (vl rfl)) ?_
  refine Ch.op rfl rfl (by decide) (ok_int rfl (vl rfl) (vl rfl) rfl) ?_
  refine Ch.op rfl rfl (by decide) (ok_move rfl (vl rfl)) ?_
  refine Ch.cases 7 rfl (fun h1 => ?_) (fun h1 => ?_)
  ·
    have q1 := Nrm.nrm h1
    refine Ch.no rfl rfl rfl (ne_false h1) rfl (by decide) ?_
    refine Ch.no rfl rfl rfl (ne_false h1) rfl (by decide) ?_
    refine Ch.no rfl rfl rfl (ne_false h1) rfl (by decide) ?_
    refine Ch.no rfl rfl rfl (ne_false h1) rfl (by decide) ?_
    refine Ch.no rfl rfl rfl (ne_false h1) rfl (by decide) ?_
    refine Ch.no rfl rfl rfl (ne_false h1) rfl (by decide) ?_
    refine Ch.no rfl rfl rfl (ne_false h1) rfl (by decide) ?_
    refine Ch.op rfl rfl (by decide) (ok_pick_t rfl (vl rfl) h1 (vl rfl)) ?_
    refine Ch.op rfl rfl (by decide) (ok_move rfl (vl rfl)) ?_
    refine Ch.no rfl rfl rfl (by decide) rfl (by decide) ?_
    refine Ch.no rfl rfl rfl (by decide) rfl (by decide) ?_
    refine Ch.no rfl rfl rfl (by decide) rfl (by decide) ?_
    refine Ch.no rfl rfl rfl (by decide) rfl (by decide) ?_
    refine Ch.op rfl rfl (by decide) (ok_pick_t rfl (vl rfl) rfl (vl rfl)) ?_
    refine Ch.op rfl rfl (by decide) (ok_assign rfl (vl rfl)) ?_
    refine Ch.nil ?_
    refine Fin.go ?_
    refine Tr.weak [(2, _)] ⟨⟨_, rfl, Pr.le_refl _⟩, trivial⟩ ?_
    refine Tr.ret ?_
    refine Fin.ret1 rfl (OutW.bse _ _) rfl ?_
    · refine bool_eq ?_; simp [badWin]; omega
  ·
    have q1 := Nrm.nrm h1
    refine Ch.yes rfl rfl rfl h1 rfl (by decide) (ok_fieldAddr rfl fo45_0 (vl rfl) rfl) ?_
    refine Ch.yes rfl rfl rfl h1 rfl (by decide) (ok_fieldAddr rfl fo43_0 (vl rfl) rfl) ?_
    refine Ch.yes rfl rfl rfl h1 rfl (by decide) (ok_load1 rfl one3 (vl rfl)) ?_
    refine Ch.yes rfl rfl rfl h1 rfl (by decide) (ok_fieldAddr rfl fo45_0 (vl rfl) rfl) ?_
    refine Ch.yes rfl rfl rfl h1 rfl (by decide) (ok_fieldAddr rfl fo43_1 (vl rfl) rfl) ?_
    refine Ch.yes rfl rfl rfl h1 rfl (by decide) (ok_load1 rfl one3 (vl rfl)) ?_
    refine Ch.yes rfl rfl rfl h1 rfl (by decide) (ok_int rfl (vl rfl) (vl rfl) rfl) ?_
    refine Ch.op rfl rfl (by decide) (ok_pick_f rfl (vl rfl) h1 (vl rfl)) ?_
    refine Ch.op rfl rfl (by decide) (ok_move rfl (vl rfl)) ?_
    refine Ch.cases 16 rfl (fun h2 => ?_) (fun h2 => ?_)
    ·
      have q2 := Nrm.nrm h2
      refine Ch.no rfl rfl rfl (ne_false h2) rfl (by decide) ?_
      refine Ch.no rfl rfl rfl (ne_false h2) rfl (by decide) ?_
      refine Ch.no rfl rfl rfl (ne_false h2) rfl (by decide) ?_
      refine Ch.no rfl rfl rfl (ne_false h2) rfl (by decide) ?_
      refine Ch.op rfl rfl (by decide) (ok_pick_t rfl (vl rfl) h2 (vl rfl)) ?_
      refine Ch.op rfl rfl (by decide) (ok_assign rfl (vl rfl)) ?_
      refine Ch.nil ?_
      refine Fin.go ?_
      refine Tr.weak [(2, _)] ⟨⟨_, rfl, Pr.le_refl _⟩, trivial⟩ ?_
      refine Tr.ret ?_
      refine Fin.ret1 rfl (OutW.bse _ _) rfl ?_
      · refine bool_eq ?_; simp [badWin]; omega
    ·
      have q2 := Nrm.nrm h2
      refine Ch.yes rfl rfl rfl h2 rfl (by decide) (ok_fieldAddr rfl fo45_0 (vl rfl) rfl) ?_
      refine Ch.yes rfl rfl rfl h2 rfl (by decide) (ok_fieldAddr rfl fo43_1 (vl rfl) rfl) ?_
      refine Ch.yes rfl rfl rfl h2 rfl (by decide) (ok_load1 rfl one3 (vl rfl)) ?_
      refine Ch.yes rfl rfl rfl h2 rfl (by decide) (ok_int rfl (vl rfl) (vl rfl) rfl) ?_
      refine Ch.op rfl rfl (by decide) (ok_pick_f rfl (vl rfl) h2 (vl rfl)) ?_
      refine Ch.op rfl rfl (by decide) (ok_assign rfl (vl rfl)) ?_
      refine Ch.nil ?_
      refine Fin.go ?_
      refine Tr.weak [(2, _)] ⟨⟨_, rfl, Pr.le_refl _⟩, trivial⟩ ?_
      refine Tr.ret ?_
      refine Fin.ret1 rfl (OutW.bse _ _) rfl ?_
      · refine bool_eq ?_; simp [badWin]; omega
theorem e_Check2 : Entry Try.prog 46 := ⟨_, Try.func46, rfl, rfl⟩
theorem w_Check3 {c : Cal} {n : Int}  : Fun Try.prog 47 [int n, ref [winsP c.wins, ints c.team, ints c.room]] (bool (!c.has n)) := by
  refine Fun.of Try.func47 rfl rfl (by exact Nat.le_of_ble_eq_true rfl) fun M0 w0 => ?_
  refine Tr.seq ?_
  refine Tr.reg0 ?_
  refine Ch.op rfl rfl (by decide) (ok_assign rfl (vl rfl)) ?_
  refine Ch.nil ?_
  refine Fin.go ?_
  refine Tr.seq ?_
  refine Tr.reg0 ?_
  refine Ch.op rfl rfl (by decide) (ok_loadA rfl agg27 sz27 (vl rfl) rfl rfl) ?_
  refine Ch.op rfl rfl (by decide) (ok_move rfl (vl rfl)) ?_
  refine Ch.op rfl rfl (by decide) (ok_call rfl (w_team) ⟨⟨_, rfl, Pr.le_refl _⟩, ⟨_, rfl, Pr.le_refl _⟩, trivial⟩) ?_
  refine Ch.op rfl rfl (by decide) (ok_not rfl (vl rfl)) ?_
  refine Ch.op rfl rfl (by decide) (ok_assign rfl (vl rfl)) ?_
  refine Ch.nil ?_
  refine Fin.go ?_
  refine Tr.ret ?_
  refine Fin.ret1 rfl (OutW.bse _ _) rfl ?_
  · first | exact Pr.le_refl _ | (refine int_eq ?_; simp_all; done) | (refine bool_eq ?_; simp_all; done) | (refine bool_eq ?_; simp_all; omega) | (refine int_eq ?_; omega)
theorem e_Check3 : Entry Try.prog 47 := ⟨_, Try.func47, rfl, rfl⟩
theorem w_Check4 {c : Cal} {w : Win}  : Fun Try.prog 48 [agg (encWin w), ref [fn (.func 47) [ref [winsP c.wins, ints c.team, ints c.room]]]] (bool (w.teams.any fun n => !c.has n)) := by
  refine Fun.of Try.func48 rfl rfl (by exact Nat.le_of_ble_eq_true rfl) fun M0 w0 => ?_
  refine Tr.seq ?_
  refine Tr.reg0 ?_
  refine Ch.op rfl rfl (by decide) (ok_box rfl (VL.le (vl rfl) (agg_cellsP _))) ?_
  refine Ch.op rfl rfl (by decide) (ok_assign rfl (vl rfl)) ?_
  refine Ch.nil ?_
  refine Fin.go ?_
  refine Tr.seq ?_
  refine Tr.reg0 ?_
  refine Ch.op rfl rfl (by decide) (ok_fieldAddr rfl fo45_1 (vl rfl) rfl) ?_
  refine Ch.op rfl rfl (by decide) (ok_load1 rfl one22 (vl rfl)) ?_
  refine Ch.op rfl rfl (by decide) (ok_load1 rfl one71 (vl rfl)) ?_
  refine Ch.op rfl rfl (by decide) (ok_call rfl (w_ContainsFuncI (p := fun n => !c.has n)) ⟨⟨_, rfl, Pr.le_refl _⟩, ⟨_, rfl, fn_le_clo (w_Check3 (c := c) (n := 0)).1 (fun x => w_Check3 (c := c) (n := x))⟩, trivial⟩) ?_
  refine Ch.op rfl rfl (by decide) (ok_assign rfl (vl rfl)) ?_
  refine Ch.nil ?_
  refine Fin.go ?_
  refine Tr.ret ?_
  refine Fin.ret1 rfl (OutW.bse _ _) rfl ?_
  · first | exact Pr.le_refl _ | (refine int_eq ?_; simp_all; done) | (refine bool_eq ?_; simp_all; done) | (refine bool_eq ?_; simp_all; omega) | (refine int_eq ?_; omega)
theorem e_Check4 : Entry Try.prog 48 := ⟨_, Try.func48, rfl, rfl⟩
end Go.Proofs.Ytacifhfelijekaa
