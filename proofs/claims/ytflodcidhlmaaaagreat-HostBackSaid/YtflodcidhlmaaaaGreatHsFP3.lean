/-
  Part 3 of the texts that prove this claim, merged.
-/
import Derived.Test.YtflodcidhlmaaaaGreatRows
import Derived.Test.YtflodcidhlmaaaaGreatHsFP2
set_option linter.all false
set_option maxRecDepth 40000
set_option maxHeartbeats 16000000
namespace Go.Proofs.YtflodcidhlmaaaaGreat
open Go Cp
instance i_mixed : TM Tryz.prog := ⟨mixed⟩
instance i_z3 : TV Tryz.prog 3 [.int .i64 0] := ⟨z3, zo3⟩
instance i_one3 : T1 Tryz.prog 3 := ⟨one3⟩
instance i_sz3 : TZ Tryz.prog 3 1 := ⟨sz3⟩
instance i_one4 : T1 Tryz.prog 4 := ⟨one4⟩
instance i_sz4 : TZ Tryz.prog 4 1 := ⟨sz4⟩
instance i_underlying4 : TU Tryz.prog 4 .bool := ⟨Tryz.underlying4⟩
instance i_z5 : TV Tryz.prog 5 [.int .u8 0] := ⟨z5, zo5⟩
instance i_one5 : T1 Tryz.prog 5 := ⟨one5⟩
instance i_sz5 : TZ Tryz.prog 5 1 := ⟨sz5⟩
instance i_z9 : TV Tryz.prog 9 [.string (ByteArray.mk #[])] := ⟨z9, zo9⟩
instance i_one9 : T1 Tryz.prog 9 := ⟨one9⟩
instance i_sz9 : TZ Tryz.prog 9 1 := ⟨sz9⟩
instance i_underlying9 : TU Tryz.prog 9 .string := ⟨Tryz.underlying9⟩
instance i_one22 : T1 Tryz.prog 22 := ⟨one22⟩
instance i_sz22 : TZ Tryz.prog 22 1 := ⟨sz22⟩
instance i_underlying22 : TU Tryz.prog 22 (.slice 3) := ⟨Tryz.underlying22⟩
instance i_one27 : T1 Tryz.prog 27 := ⟨one27⟩
instance i_sz27 : TZ Tryz.prog 27 1 := ⟨sz27⟩
instance i_underlying27 : TU Tryz.prog 27 (.slice 35) := ⟨Tryz.underlying27⟩
instance i_sz31 : TZ Tryz.prog 31 3 := ⟨sz31⟩
instance i_fo31_0 : TF Tryz.prog 31 0 0 := ⟨fo31_0⟩
instance i_one33 : T1 Tryz.prog 33 := ⟨one33⟩
instance i_sz33 : TZ Tryz.prog 33 1 := ⟨sz33⟩
instance i_underlying33 : TU Tryz.prog 33 (.slice 47) := ⟨Tryz.underlying33⟩
instance i_bl35 : TB Tryz.prog 35 (fun i => (#[(0, 1), (1, 1), (2, 1), (3, 1), (4, 1), (5, 1), (6, 1), (7, 1), (8, 1)] : Array (Nat × Nat))[i]?) [.string (ByteArray.mk #[]), .int .i64 0, .int .i64 0, .slice none 0 0, .bool false, .slice none 0 0, .slice none 0 0, .slice none 0 0, .bool false] := ⟨bl35, zo35⟩
instance i_z35 : TV Tryz.prog 35 [.string (ByteArray.mk #[]), .int .i64 0, .int .i64 0, .slice none 0 0, .bool false, .slice none 0 0, .slice none 0 0, .slice none 0 0, .bool false] := ⟨z35, zo35⟩
instance i_agg35 : TA Tryz.prog 35 := ⟨agg35⟩
instance i_sz35 : TZ Tryz.prog 35 9 := ⟨sz35⟩
instance i_fo35_0 : TF Tryz.prog 35 0 0 := ⟨fo35_0⟩
instance i_fo35_1 : TF Tryz.prog 35 1 1 := ⟨fo35_1⟩
instance i_fo35_2 : TF Tryz.prog 35 2 2 := ⟨fo35_2⟩
instance i_fo35_3 : TF Tryz.prog 35 3 3 := ⟨fo35_3⟩
instance i_fo35_4 : TF Tryz.prog 35 4 4 := ⟨fo35_4⟩
instance i_fo35_5 : TF Tryz.prog 35 5 5 := ⟨fo35_5⟩
instance i_fo35_6 : TF Tryz.prog 35 6 6 := ⟨fo35_6⟩
instance i_fo35_7 : TF Tryz.prog 35 7 7 := ⟨fo35_7⟩
instance i_fo35_8 : TF Tryz.prog 35 8 8 := ⟨fo35_8⟩
instance i_bl37 : TB Tryz.prog 37 (fun i => (#[(0, 9), (9, 1)] : Array (Nat × Nat))[i]?) [.string (ByteArray.mk #[]), .int .i64 0, .int .i64 0, .slice none 0 0, .bool false, .slice none 0 0, .slice none 0 0, .slice none 0 0, .bool false, .slice none 0 0] := ⟨bl37, zo37⟩
instance i_agg37 : TA Tryz.prog 37 := ⟨agg37⟩
instance i_sz37 : TZ Tryz.prog 37 10 := ⟨sz37⟩
instance i_fo37_0 : TF Tryz.prog 37 0 0 := ⟨fo37_0⟩
instance i_fo37_1 : TF Tryz.prog 37 1 9 := ⟨fo37_1⟩
instance i_bl44 : TB Tryz.prog 44 (fun i => (#[(0, 1), (1, 1)] : Array (Nat × Nat))[i]?) (List.replicate 2 (.int .i64 0)) := ⟨bl44, zo44⟩
instance i_agg44 : TA Tryz.prog 44 := ⟨agg44⟩
instance i_sz44 : TZ Tryz.prog 44 2 := ⟨sz44⟩
instance i_fo44_0 : TF Tryz.prog 44 0 0 := ⟨fo44_0⟩
instance i_fo44_1 : TF Tryz.prog 44 1 1 := ⟨fo44_1⟩
instance i_one45 : T1 Tryz.prog 45 := ⟨one45⟩
instance i_sz45 : TZ Tryz.prog 45 1 := ⟨sz45⟩
instance i_underlying45 : TU Tryz.prog 45 (.slice 126) := ⟨Tryz.underlying45⟩
instance i_bl47 : TB Tryz.prog 47 (fun i => (#[(0, 2), (2, 1), (3, 1)] : Array (Nat × Nat))[i]?) [.int .i64 0, .int .i64 0, .int .i64 0, .slice none 0 0] := ⟨bl47, zo47⟩
instance i_z47 : TV Tryz.prog 47 [.int .i64 0, .int .i64 0, .int .i64 0, .slice none 0 0] := ⟨z47, zo47⟩
instance i_agg47 : TA Tryz.prog 47 := ⟨agg47⟩
instance i_sz47 : TZ Tryz.prog 47 4 := ⟨sz47⟩
instance i_fo47_0 : TF Tryz.prog 47 0 0 := ⟨fo47_0⟩
instance i_fo47_1 : TF Tryz.prog 47 1 2 := ⟨fo47_1⟩
instance i_fo47_2 : TF Tryz.prog 47 2 3 := ⟨fo47_2⟩
instance i_bl49 : TB Tryz.prog 49 (fun i => (#[(0, 1), (1, 1), (2, 1), (3, 1), (4, 4)] : Array (Nat × Nat))[i]?) [.int .i64 0, .int .i64 0, .int .i64 0, .int .i64 0, .int .i64 0, .int .i64 0, .int .i64 0, .slice none 0 0] := ⟨bl49, zo49⟩
instance i_agg49 : TA Tryz.prog 49 := ⟨agg49⟩
instance i_sz49 : TZ Tryz.prog 49 8 := ⟨sz49⟩
instance i_fo49_1 : TF Tryz.prog 49 1 1 := ⟨fo49_1⟩
instance i_fo49_2 : TF Tryz.prog 49 2 2 := ⟨fo49_2⟩
instance i_fo49_3 : TF Tryz.prog 49 3 3 := ⟨fo49_3⟩
instance i_fo49_4 : TF Tryz.prog 49 4 4 := ⟨fo49_4⟩
instance i_one71 : T1 Tryz.prog 71 := ⟨one71⟩
instance i_bl82 : TB Tryz.prog 82 (fun i => (#[(0, 1), (1, 1)] : Array (Nat × Nat))[i]?) [.slice none 0 0, .int .i64 0] := ⟨bl82, zo82⟩
instance i_fo82_0 : TF Tryz.prog 82 0 0 := ⟨fo82_0⟩
instance i_fo82_1 : TF Tryz.prog 82 1 1 := ⟨fo82_1⟩
instance i_one83 : T1 Tryz.prog 83 := ⟨one83⟩
instance i_sz83 : TZ Tryz.prog 83 1 := ⟨sz83⟩
instance i_underlying83 : TU Tryz.prog 83 (.slice 9) := ⟨Tryz.underlying83⟩
instance i_bl106 : TB Tryz.prog 106 (fun i => (#[(0, 1), (1, 1), (2, 2), (4, 2), (6, 2), (8, 2), (10, 1), (11, 1)] : Array (Nat × Nat))[i]?) [.int .i64 0, .string (ByteArray.mk #[]), .int .i64 0, .int .i64 0, .int .i64 0, .int .i64 0, .int .i64 0, .int .i64 0, .int .i64 0, .int .i64 0, .int .i64 0, .int .i64 0] := ⟨bl106, zo106⟩
instance i_agg106 : TA Tryz.prog 106 := ⟨agg106⟩
instance i_sz106 : TZ Tryz.prog 106 12 := ⟨sz106⟩
instance i_bl124 : TB Tryz.prog 124 (fun i => (#[(0, 1), (1, 1)] : Array (Nat × Nat))[i]?) (List.replicate 2 (.int .i64 0)) := ⟨bl124, zo124⟩
instance i_agg124 : TA Tryz.prog 124 := ⟨agg124⟩
instance i_sz124 : TZ Tryz.prog 124 2 := ⟨sz124⟩
instance i_fo124_0 : TF Tryz.prog 124 0 0 := ⟨fo124_0⟩
instance i_fo124_1 : TF Tryz.prog 124 1 1 := ⟨fo124_1⟩
instance i_z126 : TV Tryz.prog 126 [.int .i64 0, .string (ByteArray.mk #[]), .string (ByteArray.mk #[]), .int .i64 0, .int .i64 0, .int .i64 0, .int .i64 0, .int .i64 0, .int .i64 0, .int .i64 0, .bool false, .int .i64 0, .slice none 0 0, .int .i64 0, .int .i64 0] := ⟨z126, zo126⟩
instance i_agg126 : TA Tryz.prog 126 := ⟨agg126⟩
instance i_sz126 : TZ Tryz.prog 126 15 := ⟨sz126⟩
instance i_fo126_0 : TF Tryz.prog 126 0 0 := ⟨fo126_0⟩
instance i_fo126_1 : TF Tryz.prog 126 1 1 := ⟨fo126_1⟩
instance i_fo126_10 : TF Tryz.prog 126 10 12 := ⟨fo126_10⟩
instance i_fo126_11 : TF Tryz.prog 126 11 13 := ⟨fo126_11⟩
instance i_fo126_2 : TF Tryz.prog 126 2 2 := ⟨fo126_2⟩
instance i_fo126_3 : TF Tryz.prog 126 3 3 := ⟨fo126_3⟩
instance i_fo126_4 : TF Tryz.prog 126 4 5 := ⟨fo126_4⟩
instance i_fo126_5 : TF Tryz.prog 126 5 6 := ⟨fo126_5⟩
instance i_fo126_6 : TF Tryz.prog 126 6 8 := ⟨fo126_6⟩
instance i_fo126_7 : TF Tryz.prog 126 7 9 := ⟨fo126_7⟩
instance i_fo126_8 : TF Tryz.prog 126 8 10 := ⟨fo126_8⟩
instance i_fo126_9 : TF Tryz.prog 126 9 11 := ⟨fo126_9⟩
instance i_bl157 : TB Tryz.prog 157 (fun i => (#[(0, 1), (1, 1)] : Array (Nat × Nat))[i]?) [.string (ByteArray.mk #[]), .int .i64 0] := ⟨bl157, zo157⟩
instance i_z157 : TV Tryz.prog 157 [.string (ByteArray.mk #[]), .int .i64 0] := ⟨z157, zo157⟩
instance i_sz157 : TZ Tryz.prog 157 2 := ⟨sz157⟩
instance i_fo157_1 : TF Tryz.prog 157 1 1 := ⟨fo157_1⟩
instance i_underlying158 : TU Tryz.prog 158 (.slice 157) := ⟨Tryz.underlying158⟩
instance i_one176 : T1 Tryz.prog 176 := ⟨one176⟩
instance i_underlying176 : TU Tryz.prog 176 (.slice 5) := ⟨Tryz.underlying176⟩
instance i_one193 : T1 Tryz.prog 193 := ⟨one193⟩
instance i_bl195 : TB Tryz.prog 195 (fun i => (#[(0, 1), (1, 1), (2, 1), (3, 1)] : Array (Nat × Nat))[i]?) [.int .i64 0, .slice none 0 0, .bool false, .slice none 0 0] := ⟨bl195, zo195⟩
instance i_agg195 : TA Tryz.prog 195 := ⟨agg195⟩
instance i_sz195 : TZ Tryz.prog 195 4 := ⟨sz195⟩
instance i_fo195_0 : TF Tryz.prog 195 0 0 := ⟨fo195_0⟩
instance i_fo195_1 : TF Tryz.prog 195 1 1 := ⟨fo195_1⟩
instance i_fo195_2 : TF Tryz.prog 195 2 2 := ⟨fo195_2⟩
instance i_fo195_3 : TF Tryz.prog 195 3 3 := ⟨fo195_3⟩
instance i_bl201 : TB Tryz.prog 201 (fun i => (#[(0, 1), (1, 1), (2, 1), (3, 1), (4, 1)] : Array (Nat × Nat))[i]?) [.string (ByteArray.mk #[]), .int .i64 0, .int .i64 0, .slice none 0 0, .slice none 0 0] := ⟨bl201, zo201⟩
instance i_sz201 : TZ Tryz.prog 201 5 := ⟨sz201⟩
instance i_fo201_1 : TF Tryz.prog 201 1 1 := ⟨fo201_1⟩
instance i_fo201_2 : TF Tryz.prog 201 2 2 := ⟨fo201_2⟩
instance i_fo201_3 : TF Tryz.prog 201 3 3 := ⟨fo201_3⟩
instance i_fo201_4 : TF Tryz.prog 201 4 4 := ⟨fo201_4⟩
instance i_bl237 : TB Tryz.prog 237 (fun i => some (i * 5, 5)) [.string (ByteArray.mk #[]), .int .i64 0, .int .i64 0, .slice none 0 0, .slice none 0 0, .string (ByteArray.mk #[]), .int .i64 0, .int .i64 0, .slice none 0 0, .slice none 0 0, .string (ByteArray.mk #[]), .int .i64 0, .int .i64 0, .slice none 0 0, .slice none 0 0, .string (ByteArray.mk #[]), .int .i64 0, .int .i64 0, .slice none 0 0, .slice none 0 0, .string (ByteArray.mk #[]), .int .i64 0, .int .i64 0, .slice none 0 0, .slice none 0 0, .string (ByteArray.mk #[]), .int .i64 0, .int .i64 0, .slice none 0 0, .slice none 0 0, .string (ByteArray.mk #[]), .int .i64 0, .int .i64 0, .slice none 0 0, .slice none 0 0, .string (ByteArray.mk #[]), .int .i64 0, .int .i64 0, .slice none 0 0, .slice none 0 0, .string (ByteArray.mk #[]), .int .i64 0, .int .i64 0, .slice none 0 0, .slice none 0 0, .string (ByteArray.mk #[]), .int .i64 0, .int .i64 0, .slice none 0 0, .slice none 0 0, .string (ByteArray.mk #[]), .int .i64 0, .int .i64 0, .slice none 0 0, .slice none 0 0, .string (ByteArray.mk #[]), .int .i64 0, .int .i64 0, .slice none 0 0, .slice none 0 0, .string (ByteArray.mk #[]), .int .i64 0, .int .i64 0, .slice none 0 0, .slice none 0 0, .string (ByteArray.mk #[]), .int .i64 0, .int .i64 0, .slice none 0 0, .slice none 0 0, .string (ByteArray.mk #[]), .int .i64 0, .int .i64 0, .slice none 0 0, .slice none 0 0, .string (ByteArray.mk #[]), .int .i64 0, .int .i64 0, .slice none 0 0, .slice none 0 0, .string (ByteArray.mk #[]), .int .i64 0, .int .i64 0, .slice none 0 0, .slice none 0 0, .string (ByteArray.mk #[]), .int .i64 0, .int .i64 0, .slice none 0 0, .slice none 0 0, .string (ByteArray.mk #[]), .int .i64 0, .int .i64 0, .slice none 0 0, .slice none 0 0, .string (ByteArray.mk #[]), .int .i64 0, .int .i64 0, .slice none 0 0, .slice none 0 0, .string (ByteArray.mk #[]), .int .i64 0, .int .i64 0, .slice none 0 0, .slice none 0 0, .string (ByteArray.mk #[]), .int .i64 0, .int .i64 0, .slice none 0 0, .slice none 0 0, .string (ByteArray.mk #[]), .int .i64 0, .int .i64 0, .slice none 0 0, .slice none 0 0] := ⟨bl237, zo237⟩
instance i_sz237 : TZ Tryz.prog 237 115 := ⟨sz237⟩
instance i_bl259 : TB Tryz.prog 259 (fun i => some (i * 1, 1)) (List.replicate 2 (.int .i64 0)) := ⟨bl259, zo259⟩
instance i_sz259 : TZ Tryz.prog 259 2 := ⟨sz259⟩
instance i_bl260 : TB Tryz.prog 260 (fun i => some (i * 2, 2)) (List.replicate 10 (.int .i64 0)) := ⟨bl260, zo260⟩
end Go.Proofs.YtflodcidhlmaaaaGreat
namespace Go.Proofs.YtflodcidhlmaaaaGreat
open Go Go.RowKit Cp

abbrev ints (l : List Int) : Pr := slice 1 (l.map fun n => [int n])

/-- The index of the first that p takes, -1 for none. -/
def idx {β : Type} (p : β → Bool) (l : List β) : Int := match l.findIdx? p with | some i => i | none => -1
theorem idx_found {β : Type} {p : β → Bool} {l : List β} {k : Nat} {x : β} (hx : l[k]? = some x) (hp : p x = true) (h : ∀ j y, j < k → l[j]? = some y → p y = false) : (k : Int) = idx p l := by
  have : l.findIdx? p = some k := by
    rw [List.findIdx?_eq_some_iff_getElem]
    have hk : k < l.length := by rcases Nat.lt_or_ge k l.length with h | h; exact h; rw [List.getElem?_eq_none h] at hx; cases hx
    rw [List.getElem?_eq_getElem hk] at hx
    simp only [Option.some.injEq] at hx
    refine ⟨hk, by rw [hx]; exact hp, fun j hj => ?_⟩
    simpa using h j _ hj (List.getElem?_eq_getElem (by omega))
  unfold idx; rw [this]
theorem idx_none {β : Type} {p : β → Bool} {l : List β} (h : ∀ j y, j < l.length → l[j]? = some y → p y = false) : (-1 : Int) = idx p l := by
  have : l.findIdx? p = none := by
    rw [List.findIdx?_eq_none_iff]
    intro x hx
    obtain ⟨j, hj, rfl⟩ := List.mem_iff_getElem.1 hx
    exact h j _ hj (List.getElem?_eq_getElem hj)
  unfold idx; rw [this]
theorem idx_any {β : Type} (p : β → Bool) (l : List β) : decide (idx p l ≥ 0) = l.any p := by
  unfold idx
  cases h : l.findIdx? p with
  | none => rw [List.findIdx?_eq_none_iff] at h; simp; intro x hx; simpa using h x hx
  | some i =>
    rw [List.findIdx?_eq_some_iff_getElem] at h
    obtain ⟨h1, h2, _⟩ := h
    simp
    exact ⟨_, List.getElem_mem h1, h2⟩
theorem step_no {β : Type} {p : β → Bool} {l : List β} {k : Nat} {x : β} (hx : l[k]? = some x) (hp : p x = false) (h : ∀ j y, j < k → l[j]? = some y → p y = false) : ∀ j y, j < k + 1 → l[j]? = some y → p y = false := by
  intro j y hj hy
  by_cases hjk : j = k
  · subst hjk; rw [hx] at hy; cases hy; exact hp
  · exact h j y (by omega) hy

theorem w_IndexFuncI {l : List Int} {p : Int → Bool}  : Fun Tryz.prog 135 [ints l, clo Tryz.prog (fun x : Int => [int x]) (fun x => bool (p x))] (int (idx p l)) := by
 refine fo Tryz.func135 rfl ⟨rfl, rfl⟩ fun M0 w0 => (Tr.lenm 0 rfl fun hlm_0 => ?_)
 refine ac ?_
 refine ac ?_
 refine Tr.block (Tr.loopw [(0, _), (1, _), (7, _)] (kk3 rfl) (fun k : Nat => [(8, int ((k : Nat) : Int))]) (fun k : Nat => k ≤ (l).length ∧ (∀ j y, j < k → l[j]? = some y → p y = false)) (fun k : Nat => (l).length - k) 0 (⟨Nat.zero_le _, fun j y hj => absurd hj (by omega)⟩) ⟨ke rfl, trivial⟩ ?_)
 rintro k ⟨hle_k, hinv_k⟩
 refine ac ?_
 refine Tr.seq ?_
 refine Tr.cn rfl ?_ ?_ <;> intro h1 q1
 have hk_k : k < (l).length := lt_of_dec h1
 obtain ⟨x, hx_k⟩ := at_ hk_k
 refine ac ?_
 refine ac ?_
 refine ac ?_
 refine co rfl (ok_indexAddr rfl Tryz.underlying22 sz3 (vl rfl) (vl rfl) (by omega) (by exact row_at (by assumption))) ?_
 refine co rfl (kl1 rfl one3 rfl) (co rfl (ok_callc x rfl (vl rfl) ⟨ke rfl, trivial⟩) ?_)
 refine ac ?_
 refine Tr.cn rfl ?_ ?_ <;> intro h2 q2
 refine ac ?_
 refine wk1 4 rfl ?_
 refine ac ?_
 · exact int_eq (idx_found hx_k (by assumption) hinv_k)
 refine ac ?_
 refine ac ?_
 exact Fin.fam_same (k + 1) ⟨⟨hk_k, step_no hx_k (by assumption) hinv_k⟩, by omega⟩ ⟨⟨_, rfl, int_succ k⟩, ke rfl, ke rfl, ke rfl, trivial⟩
 have he_k : k = (l).length := by have := ge_of_dec h1; omega
 subst he_k
 refine ac ?_
 refine ac ?_
 refine ac ?_
 · exact int_eq (idx_none hinv_k)
theorem w_ContainsFuncI {l : List Int} {p : Int → Bool}  : Fun Tryz.prog 93 [ints l, clo Tryz.prog (fun x : Int => [int x]) (fun x => bool (p x))] (bool (l.any p)) := by
 refine fo Tryz.func93 rfl ⟨rfl, rfl⟩ fun M0 w0 => ?_
 refine ac ?_
 refine ac ?_
 refine co rfl (kc2 (w_IndexFuncI) rfl rfl rfl) ?_
 refine ac ?_
 refine ac ?_
 · exact bool_eq (idx_any p l)
theorem w_IndexI {l : List Int} {v : Int}  : Fun Tryz.prog 169 [ints l, int v] (int (idx (fun x => v == x) l)) := by
 refine fo Tryz.func169 rfl ⟨rfl, rfl⟩ fun M0 w0 => (Tr.lenm 0 rfl fun hlm_0 => ?_)
 refine ac ?_
 refine ac ?_
 refine Tr.block (Tr.loopw [(0, _), (1, _), (7, _)] (kk3 rfl) (fun k : Nat => [(8, int ((k : Nat) : Int))]) (fun k : Nat => k ≤ (l).length ∧ (∀ j y, j < k → l[j]? = some y → (v == y) = false)) (fun k : Nat => (l).length - k) 0 (⟨Nat.zero_le _, fun j y hj => absurd hj (by omega)⟩) ⟨ke rfl, trivial⟩ ?_)
 rintro k ⟨hle_k, hinv_k⟩
 refine ac ?_
 refine Tr.seq ?_
 refine Tr.cn rfl ?_ ?_ <;> intro h1 q1
 have hk_k : k < (l).length := lt_of_dec h1
 obtain ⟨x, hx_k⟩ := at_ hk_k
 refine ac ?_
 refine ac ?_
 refine ac ?_
 refine co rfl (ok_indexAddr rfl Tryz.underlying22 sz3 (vl rfl) (vl rfl) (by omega) (by exact row_at (by assumption))) ?_
 refine ac ?_
 refine Tr.cn rfl ?_ ?_ <;> intro h2 q2
 refine ac ?_
 refine wk1 4 rfl ?_
 refine ac ?_
 · exact int_eq (idx_found (p := fun x => v == x) hx_k (by assumption) hinv_k)
 refine ac ?_
 refine ac ?_
 exact Fin.fam_same (k + 1) ⟨⟨hk_k, step_no (p := fun x => v == x) hx_k (by assumption) hinv_k⟩, by omega⟩ ⟨⟨_, rfl, int_succ k⟩, ke rfl, ke rfl, ke rfl, trivial⟩
 have he_k : k = (l).length := by have := ge_of_dec h1; omega
 subst he_k
 refine ac ?_
 refine ac ?_
 refine ac ?_
 · exact int_eq (idx_none hinv_k)
theorem w_ContainsI {l : List Int} {v : Int}  : Fun Tryz.prog 131 [ints l, int v] (bool (l.any fun x => v == x)) := by
 refine fo Tryz.func131 rfl ⟨rfl, rfl⟩ fun M0 w0 => ?_
 refine ac ?_
 refine ac ?_
 refine co rfl (kc2 (w_IndexI) rfl rfl rfl) ?_
 refine ac ?_
 refine ac ?_
 · exact bool_eq (idx_any _ l)
end Go.Proofs.YtflodcidhlmaaaaGreat
namespace Go.Proofs.YtflodcidhlmaaaaGreat
open Go Go.RowKit Cp Go.ChangeShapes Go.WideShapes Go.ChangeAt

theorem own0 : ownKnob Tryz.prog.godebug = none := by kernel_rfl
theorem laidOut0 : laidOutB Tryz.prog = true := by kernel_rfl
theorem u8_in {n : Int} (h : (Lit.int .u8 n).wf = true) : 0 ≤ n ∧ n < 256 := by
  simp only [Lit.wf, Bool.and_eq_true, decide_eq_true_eq] at h
  have h1 : IntKind.u8.min = 0 := rfl
  have h2 : IntKind.u8.max = 255 := rfl
  omega
theorem i64_in {n : Int} (h : (Lit.int .i64 n).wf = true) : InI n := by
  simp only [Lit.wf, Bool.and_eq_true, decide_eq_true_eq] at h
  have h1 : IntKind.i64.min = -9223372036854775808 := rfl
  have h2 : IntKind.i64.max = 9223372036854775807 := rfl
  unfold InI; omega
theorem opens_ints {P : Program} {t e : TypeId} (ht : P.underlying t = some (.slice e)) (he : P.underlying e = some (.int .i64)) (hc : P.cellsOf e = 1) : Opens P t (fun l : List Int => l.length ≤ maxLen ∧ ∀ n ∈ l, InI n) (fun l => [ints l]) :=
  (opens_slice ht hc (opens_int he)).map id (fun _ h => ⟨h.2, fun n hn => i64_in (h.1 n hn)⟩) (fun _ => rfl)

end Go.Proofs.YtflodcidhlmaaaaGreat
namespace Go.Proofs.YtflodcidhlmaaaaGreat
open Go Go.RowKit Cp

abbrev diceS (b : Nat) (s : DS) : Res := diceR 82 b s
theorem mod_pos (n : Int) {k : Int} (hk : 1 ≤ k) : (n.tmod k + k).tmod k = n % k := by
  have h1 : -k < n.tmod k := by have := Int.lt_tmod_of_pos n (b := k) (by omega); omega
  rw [Int.tmod_eq_emod_of_nonneg (by omega), Int.tmod_def, show n - k * n.tdiv k + k = n + k * (1 - n.tdiv k) by rw [Int.mul_sub]; omega, Int.add_mul_emod_self_left]
theorem mod_in (n : Int) {k : Int} (hk : 1 ≤ k) : -k < n.tmod k ∧ n.tmod k < k := by
  have h1 := Int.lt_tmod_of_pos n (b := k) (by omega)
  have h2 := Int.tmod_lt_of_pos n (b := k) (by omega)
  omega

theorem w_Light {l : List Int}  : Fun Tryz.prog 10 [ints l] (bool (decide (l.length ≤ 400))) := by
 refine fo Tryz.func10 rfl ⟨rfl, rfl⟩ fun M0 w0 => ?_
 refine ac ?_
 refine ac ?_
 refine ac ?_
 · refine bool_eq ?_; simp_all; omega
theorem w_Mod {n k : Int} (hk : 1 ≤ k) (hk2 : k ≤ 1000000000) : Fun Tryz.prog 82 [int n, int k] (int (n % k)) := by
 refine fo Tryz.func82 rfl ⟨rfl, rfl⟩ fun M0 w0 => ?_
 have hm := mod_in n hk
 have hp := mod_pos n hk
 refine ac ?_
 refine ac ?_
 refine Tr.cn rfl ?_ ?_ <;> intro h1 q1
 refine ac ?_
 refine ac ?_
 · exfalso; omega
 refine ac ?_
 refine ac ?_
 refine co rfl (ok_rem rfl (vl rfl) (vl rfl) (by omega)) ?_
 refine ac ?_
 refine co rfl (ok_rem rfl (vl rfl) (vl rfl) (by omega)) ?_
 refine ac ?_
 refine ac ?_
 · refine int_eq ?_; exact hp
theorem w_DNext {b : Nat} {s : DS} {n : Int} (hn : 1 ≤ n) (hn2 : n ≤ 1000000000) : FunM Tryz.prog 36 [ptr b 0, int n] (int (s.val n)) (diceS b s) (fun _ => diceS b s.adv) := by
 refine FunM.of Tryz.func36 rfl rfl (by exact Nat.le_of_ble_eq_true rfl) fun M0 w0 S rs M1 w1 => ?_
 have hs := s.h
 have hs2 := s.h2
 refine ac ?_
 refine ac ?_
 refine Tr.cn rfl ?_ ?_ <;> intro h1 q1
 refine ac ?_
 refine Tr.ret (Fin.then_ret ?_)
 rw [DS.adv_end (s := s) (by omega)]
 refine Fin.retY1 [] rfl (RVal.tmp rfl (Pr.le_refl _)) ?_ (fun _ _ _ _ => rfl)
 · refine int_eq ?_; exact (DS.val_end (by omega) n).symm
 have hlt : s.at_ < s.l.length := by omega
 obtain ⟨x, hx⟩ := at_ hlt
 refine ac ?_
 refine ap ?_
 refine wk2 0 1 rfl ?_
 refine ac ?_
 refine co rfl (ok_indexAddr rfl Tryz.underlying22 sz3 (vl rfl) (vl rfl) (by omega) (by rw [show ((s.at_ : Nat) : Int) + 1 - 1 = ((s.at_ : Nat) : Int) by omega]; exact row_at hx)) ?_
 refine ac ?_
 refine co rfl (kc2 (w_Mod (by omega) (by omega)) rfl rfl rfl) ?_
 refine ac ?_
 refine wk1 4 rfl (Tr.ret ?_)
 rw [DS.adv_at hlt]
 refine Fin.retY1 [] rfl (RVal.tmp rfl (Pr.le_refl _)) ?_ (fun _ _ _ _ => rfl)
 · refine int_eq ?_; exact (DS.val_at hx n).symm
theorem w_DOf {b : Nat} {s : DS} {l : List Int} (hl : l ≠ []) (hl2 : l.length ≤ 1000000000) : FunM Tryz.prog 42 [ptr b 0, ints l] (int (s.of l)) (diceS b s) (fun _ => diceS b s.adv) := by
 refine FunM.of Tryz.func42 rfl rfl (by exact Nat.le_of_ble_eq_true rfl) fun M0 w0 S rs M1 w1 => ?_
 have hl0 : 1 ≤ (l.length : Int) := by have := List.length_pos_iff.2 hl; omega
 have hv := s.val_in hl0
 obtain ⟨x, hx⟩ := at_ (l := l) (k := (s.val l.length).toNat) (by omega)
 refine ac ?_
 refine ap ?_
 refine TO.efc 0 rfl rfl (by decide) (ef_callc rfl rfl (by decide) rfl (w_DNext (by omega) (by omega)) ⟨ke rfl, ke rfl, trivial⟩) (tp rfl (ok_indexAddr rfl Tryz.underlying22 sz3 (vl rfl) (vl rfl) (by omega) (row_atI hx)) ?_)
 refine ap ?_
 refine Tr.ret (Fin.retY1 [] rfl (RVal.tmp rfl (Pr.le_refl _)) ?_ (fun _ _ _ _ => rfl))
 · refine int_eq ?_; unfold DS.of; rw [hx]; rfl
theorem w_DOne {b : Nat} {s : DS} {n : Int} (hn : 1 ≤ n) (hn2 : n ≤ 1000000000) : FunM Tryz.prog 41 [ptr b 0, int n] (bool (s.val n == n - 1)) (diceS b s) (fun _ => diceS b s.adv) := by
 refine FunM.of Tryz.func41 rfl rfl (by exact Nat.le_of_ble_eq_true rfl) fun M0 w0 S rs M1 w1 => ?_
 refine ac ?_
 refine ap ?_
 refine TO.efc 0 rfl rfl (by decide) (ef_callc rfl rfl (by decide) rfl (w_DNext (by omega) (by omega)) ⟨ke rfl, ke rfl, trivial⟩) ?_
 refine ap ?_
 refine Tr.ret (Fin.retY1 [] rfl (RVal.tmp rfl (Pr.le_refl _)) ?_ (fun _ _ _ _ => rfl))
 · exact Pr.le_refl _
/-- New dice. -/
def newDice (l : List Int) (hl : l.length ≤ 1000000000) (v : Value) : Res := match v with | .pointer (some a) => diceR 82 a.block ⟨l, 0, Nat.zero_le _, hl⟩ | _ => noRes

theorem w_Roll {l : List Int} (hl : l.length ≤ 1000000000) : FunM Tryz.prog 12 [ints l] (ex fun b => ptr b 0) (noRes) (newDice l hl) := by
 refine FunM.of Tryz.func12 rfl rfl (by exact Nat.le_of_ble_eq_true rfl) fun M0 w0 S rs M1 w1 => ?_
 refine ac ?_
 refine ap ?_
 refine TO.boxm rfl rfl (by decide) rfl (VL.le (vl rfl) (agg_cellsP _)) (fun b1 => ?_)
 refine ap ?_
 refine Tr.ret (Fin.drop 1 ?_)
 refine Fin.retY1 [] rfl (RVal.tmp rfl (Pr.le_refl _)) ?_ (by rintro _ _ _ rfl; rfl)
 · exact ex_in b1 (Pr.le_refl _)
end Go.Proofs.YtflodcidhlmaaaaGreat
namespace Go.Proofs.YtflodcidhlmaaaaGreat
open Go Go.RowKit Cp
-- no type cipherplan/api.Fact here
-- no type cipherplan/asset.place here
theorem eqv44 {d : Nat} {w : World} {x0 y0 : Int} {x1 y1 : Int} : (Op.equalIn (d + 2) 44 (.agg #[.int .i64 x0, .int .i64 x1]) (.agg #[.int .i64 y0, .int .i64 y1])).run Tryz.prog w = .ok (decide (x0 = y0 ∧ x1 = y1)) w := by
  have h := eqS (w := w) (d := d + 1) (xs := #[.int .i64 x0, .int .i64 x1]) (ys := #[.int .i64 y0, .int .i64 y1]) Tryz.underlying44 (by kernel_rfl) (eqF_cons (by decide) (part_leaf one3 rfl) (part_leaf one3 rfl) (eq_intL (d := d + 0) Tryz.underlying3) (eqF_cons (by decide) (part_leaf one3 rfl) (part_leaf one3 rfl) (eq_intL (d := d + 0) Tryz.underlying3) (eqF_nil)))
  refine h.trans (congrArg (fun b => Result.ok b w) ?_)
  rw [Bool.eq_iff_iff]; simp [and_assoc]
theorem ok_eq44 {E : Env} {I : Asn} {o : Oper} {u : TypeId} {x y : Operand} {x0 y0 : Int} {x1 y1 : Int} (ho : o.op = .binOp .eql 44 x y u) (hx : VL E x (agg [is (.int .i64 x0), is (.int .i64 x1)])) (hy : VL E y (agg [is (.int .i64 y0), is (.int .i64 y1)])) : OpOK Tryz.prog I o E (bool (decide (x0 = y0 ∧ x1 = y1))) :=
  ok_eqagg [.int .i64 x0, .int .i64 x1] [.int .i64 y0, .int .i64 y1] ho hx hy (by kernel_rfl) (fun w => by rw [show Op.equal 44 _ _ = Op.equalIn (9998 + 2) 44 _ _ from rfl]; exact eqv44)
theorem ok_ne44 {E : Env} {I : Asn} {o : Oper} {u : TypeId} {x y : Operand} {x0 y0 : Int} {x1 y1 : Int} (ho : o.op = .binOp .neq 44 x y u) (hx : VL E x (agg [is (.int .i64 x0), is (.int .i64 x1)])) (hy : VL E y (agg [is (.int .i64 y0), is (.int .i64 y1)])) : OpOK Tryz.prog I o E (bool (!decide (x0 = y0 ∧ x1 = y1))) :=
  ok_neagg [.int .i64 x0, .int .i64 x1] [.int .i64 y0, .int .i64 y1] ho hx hy (by kernel_rfl) (fun w => by rw [show Op.equal 44 _ _ = Op.equalIn (9998 + 2) 44 _ _ from rfl]; exact eqv44)
end Go.Proofs.YtflodcidhlmaaaaGreat
namespace Go.Proofs.YtflodcidhlmaaaaGreat
open Go Go.RowKit Cp

def okc (c : UInt8) : Bool := decide (33 ≤ c.toNat ∧ c.toNat ≤ 126)
def named (s : List UInt8) : Bool := s.all okc && decide (1 ≤ s.length ∧ s.length ≤ 32)
theorem all_hit {β : Type} {p : β → Bool} {l : List β} {k : Nat} {x : β} (hx : l[k]? = some x) (hp : p x = false) : l.all p = false := by
  rw [Bool.eq_false_iff]; intro h; rw [List.all_eq_true] at h; rw [h x (List.mem_of_getElem? hx)] at hp; cases hp
theorem all_end {β : Type} {p : β → Bool} {l : List β} (h : ∀ j y, j < l.length → l[j]? = some y → (!p y) = false) : l.all p = true := by
  rw [List.all_eq_true]
  intro y hy
  obtain ⟨j, hj⟩ := List.mem_iff_getElem?.1 hy
  have := h j y (by rcases Nat.lt_or_ge j l.length with h | h; exact h; rw [List.getElem?_eq_none h] at hj; cases hj) hj
  simpa using this

theorem w_Named {s : List UInt8} (hs : s.length ≤ maxLen) : Fun Tryz.prog 188 [str s] (bool (named s)) := by
 refine fo Tryz.func188 rfl ⟨rfl, rfl⟩ fun M0 w0 => ?_
 refine ac ?_
 refine ac ?_
 refine co rfl (ok_bytes rfl Tryz.underlying9 Tryz.underlying176 Tryz.underlying5 (vl rfl) (by assumption)) ?_
 refine ac ?_
 refine Tr.block (Tr.lenm 6 rfl fun hl6 => (Tr.loopw [(0, _), (6, _), (7, _)] (kk3 rfl) (fun k : Nat => [(8, int ((k : Nat) : Int))]) (fun k : Nat => k ≤ (s).length ∧ (∀ j y, j < k → s[j]? = some y → (!okc y) = false)) (fun k : Nat => (s).length - k) 0 (⟨Nat.zero_le _, fun j y hj => absurd hj (by omega)⟩) ⟨ke rfl, trivial⟩ ?_))
 rintro k ⟨hle_k, hinv_k⟩
 refine ac ?_
 refine Tr.seq ?_
 refine Tr.cn rfl ?_ ?_ <;> intro h1 q1
 have hk_k : k < (s).length := lt_of_dec h1
 obtain ⟨c, hx_k⟩ := at_ hk_k
 refine ac ?_
 refine Tr.seq (Tr.block (Tr.seq (Tr.reg0 (co rfl (ok_indexAddr rfl Tryz.underlying176 sz5 (vl rfl) (vl rfl) (by omega) (by exact row_at (by assumption))) ?_))))
 refine ac ?_
 refine ac ?_
 refine Ch.cs 14 rfl ?_ ?_ <;> intro h2 q2
 refine ac ?_
 refine wk5 0 6 7 8 17 rfl ?_
 refine ac ?_
 refine ac ?_
 · refine bool_eq ?_; unfold named; rw [all_hit (p := okc) hx_k (by simp [okc]; omega)]; rfl
 refine ac ?_
 refine wk5 0 6 7 8 17 rfl ?_
 refine Tr.cn rfl ?_ ?_ <;> intro h3 q3
 refine ac ?_
 refine ac ?_
 · refine bool_eq ?_; unfold named; rw [all_hit (p := okc) hx_k (by simp [okc]; omega)]; rfl
 refine ac ?_
 refine ac ?_
 exact Fin.fam_same (k + 1) ⟨⟨hk_k, step_no (p := fun c => !okc c) hx_k (by simp [okc]; omega) hinv_k⟩, by omega⟩ ⟨⟨_, rfl, int_succ k⟩, ke rfl, ke rfl, ke rfl, trivial⟩
 have he_k : k = (s).length := by have := ge_of_dec h1; omega
 subst he_k
 refine ac ?_
 refine ac ?_
 refine Ch.cs 22 rfl ?_ ?_ <;> intro h4 q4
 refine ac ?_
 refine wk1 2 rfl ?_
 refine ac ?_
 · refine bool_eq ?_; unfold named; rw [all_end hinv_k, Bool.true_and]; rw [decide_eq_decide]; omega
 refine ac ?_
 refine wk1 2 rfl ?_
 refine ac ?_
 · refine bool_eq ?_; unfold named; rw [all_end hinv_k, Bool.true_and]; (symm; rw [decide_eq_false_iff_not]; omega)
theorem w_RName {s : List UInt8}  : Fun Tryz.prog 156 [str s] (bool (named s)) := by
 refine fo Tryz.func156 rfl ⟨rfl, rfl⟩ fun M0 w0 => ?_
 refine ac ?_
 refine ac ?_
 refine Ch.cs 7 rfl ?_ ?_ <;> intro h1 q1
 refine ac ?_
 refine ac ?_
 refine ac ?_
 · refine bool_eq ?_; unfold named; rw [Bool.and_eq_false_iff.2 (.inr (by simp; omega))]
 refine ac ?_
 refine Tr.cn rfl ?_ ?_ <;> intro h2 q2
 refine ac ?_
 refine ac ?_
 · refine bool_eq ?_; unfold named; rw [Bool.and_eq_false_iff.2 (.inr (by simp; omega))]
 refine ac ?_
 refine ac ?_
 refine Tr.block (Tr.loopw [(0, _)] ⟨ke rfl, trivial⟩ (fun k : Nat => [(3, int ((k : Nat) : Int))]) (fun k : Nat => k ≤ (s).length ∧ (∀ j y, j < k → s[j]? = some y → (!okc y) = false)) (fun k : Nat => (s).length - k) 0 (⟨Nat.zero_le _, fun j y hj => absurd hj (by omega)⟩) ⟨ke rfl, trivial⟩ ?_)
 rintro k ⟨hle_k, hinv_k⟩
 refine ac ?_
 refine Tr.cn rfl ?_ ?_ <;> intro h3 q3
 have hk_k : k < (s).length := lt_of_dec h3
 obtain ⟨c, hx_k⟩ := at_ hk_k
 refine ac ?_
 refine ac ?_
 refine co rfl (ok_sidx rfl Tryz.underlying9 (vl rfl) (vl rfl) (by omega) (sidx_at (by assumption))) ?_
 refine ac ?_
 refine Ch.cs 22 rfl ?_ ?_ <;> intro h4 q4
 refine ac ?_
 refine wk3 0 3 27 rfl ?_
 refine ac ?_
 refine ac ?_
 · refine bool_eq ?_; unfold named; rw [all_hit (p := okc) hx_k (by simp [okc]; omega)]; rfl
 refine ac ?_
 refine cy h4 rfl (ok_sidx rfl Tryz.underlying9 (vl rfl) (vl rfl) (by omega) (sidx_at (by assumption))) ?_
 refine ac ?_
 refine wk3 0 3 27 rfl ?_
 refine Tr.cn rfl ?_ ?_ <;> intro h5 q5
 refine ac ?_
 refine ac ?_
 · refine bool_eq ?_; unfold named; rw [all_hit (p := okc) hx_k (by simp [okc]; omega)]; rfl
 refine ac ?_
 refine ac ?_
 exact Fin.fam_same (k + 1) ⟨⟨hk_k, step_no (p := fun c => !okc c) hx_k (by simp [okc]; omega) hinv_k⟩, by omega⟩ ⟨⟨_, rfl, int_succ k⟩, ke rfl, trivial⟩
 have he_k : k = (s).length := by have := ge_of_dec h3; omega
 subst he_k
 refine ac ?_
 refine ac ?_
 refine ac ?_
 · refine bool_eq ?_; unfold named; rw [all_end hinv_k, Bool.true_and]; symm; rw [decide_eq_true_eq]; omega
end Go.Proofs.YtflodcidhlmaaaaGreat
namespace Go.Proofs.YtflodcidhlmaaaaGreat
open Go Go.RowKit Cp

structure CatRow where
  name : List UInt8
  kind : Int
  way : Int
  sizes : List Int
  strengths : List Int
abbrev rowC (r : CatRow) : List Pr := [str r.name, int r.kind, int r.way, ints r.sizes, ints r.strengths]
def catTable : List CatRow := [⟨[], 0, 0, [], []⟩, ⟨[109, 100, 53], 1, 0, [], [18]⟩, ⟨[115, 104, 97, 49], 1, 0, [], [60]⟩, ⟨[115, 104, 97, 50, 53, 54], 1, 0, [], [128]⟩, ⟨[115, 104, 97, 51, 56, 52], 1, 0, [], [192]⟩, ⟨[114, 115, 97], 2, 1, [], []⟩, ⟨[100, 115, 97], 2, 1, [], []⟩, ⟨[101, 99, 100, 115, 97], 2, 2, [], []⟩, ⟨[101, 100, 50, 53, 53, 49, 57], 2, 0, [], [128]⟩, ⟨[109, 108, 100, 115, 97], 2, 3, [44, 65, 87], [128, 192, 256]⟩, ⟨[114, 115, 97, 107, 120], 3, 1, [], []⟩, ⟨[100, 104, 101], 3, 1, [], []⟩, ⟨[101, 99, 100, 104, 101], 3, 2, [], []⟩, ⟨[109, 108, 107, 101, 109], 3, 3, [512, 768, 1024], [128, 192, 256]⟩, ⟨[114, 99, 52], 4, 3, [40, 128], [40, 60]⟩, ⟨[100, 101, 115, 51], 4, 3, [112, 168], [80, 112]⟩, ⟨[97, 101, 115, 99, 98, 99], 4, 3, [128, 256], [128, 256]⟩, ⟨[97, 101, 115, 103, 99, 109], 4, 3, [128, 256], [128, 256]⟩, ⟨[99, 104, 97, 99, 104, 97], 4, 0, [], [256]⟩, ⟨[104, 109, 97, 99, 109, 100, 53], 5, 0, [], [64]⟩, ⟨[104, 109, 97, 99, 115, 104, 97, 49], 5, 0, [], [80]⟩, ⟨[104, 109, 97, 99, 115, 104, 97, 50, 53, 54], 5, 0, [], [128]⟩, ⟨[97, 101, 97, 100], 5, 0, [], [256]⟩]
def catZero : CatRow := ⟨[], 0, 0, [], []⟩
def catOf (alg : Int) : CatRow := if 1 ≤ alg ∧ alg ≤ 22 then (catTable[alg.toNat]?).getD catZero else catZero
theorem catTable_at {alg : Int} (h : 1 ≤ alg ∧ alg ≤ 22) : catTable[alg.toNat]? = some (catOf alg) := by
  have hl : alg.toNat < catTable.length := by show alg.toNat < 23; omega
  unfold catOf; rw [if_pos h, List.getElem?_eq_getElem hl]; rfl
theorem flat_row {β : Type} {f : β → List Pr} {sz : Nat} (hf : ∀ x, (f x).length = sz) : ∀ {l : List β} {i : Nat} {x : β}, l[i]? = some x → ((l.flatMap f).drop (i * sz)).take sz = f x
  | [], _, _, h => by simp at h
  | a :: l, 0, x, h => by
    simp at h; subst h
    rw [List.flatMap_cons, Nat.zero_mul, List.drop_zero, List.take_append_of_le_length (by rw [hf]; exact Nat.le_refl _), List.take_of_length_le (by rw [hf]; exact Nat.le_refl _)]
  | a :: l, i + 1, x, h => by
    rw [List.flatMap_cons, Nat.succ_mul, Nat.add_comm, ← List.drop_drop, List.drop_left' (hf a)]
    exact flat_row hf (by simpa using h)
theorem drop_cons {β : Type} {l : List β} {k : Nat} {x : β} (h : l[k]? = some x) : l.drop k = x :: l.drop (k + 1) := by
  have hk : k < l.length := by rcases Nat.lt_or_ge k l.length with h' | h'; exact h'; rw [List.getElem?_eq_none h'] at h; cases h
  rw [List.drop_eq_getElem_cons hk]
  rw [List.getElem?_eq_getElem hk] at h
  simp at h; rw [h]
def mods : List (Int × Int) := [(1024, 56), (2048, 80), (3072, 112), (7680, 128), (15360, 192)]
def modF : List (Int × Int) → Int → Int
  | [], _ => 256
  | p :: l, b => if b < p.1 then p.2 else modF l b
def modI (b : Int) : Int := modF mods b

theorem w_rows   : Fun Tryz.prog 221 [] (agg (catTable.flatMap rowC)) := by
 refine fo Tryz.func221 rfl ⟨rfl, rfl⟩ fun M0 w0 => (Tr.seq (Tr.regT ?_))
 refine TO.alloc rfl rfl (by decide) rfl z237 zo237 (fun b1 => ?_)
 refine ap ?_
 refine ap ?_
 refine tp rfl (ok_build (rows := [(0, [_]), (1, [_]), (2, [_]), (3, [_]), (4, [_])]) rfl bl201 zo201 ⟨⟨rfl, (VL.le (vl rfl) (one_cellsP _))⟩, ⟨⟨rfl, (VL.le (vl rfl) (one_cellsP _))⟩, ⟨⟨rfl, (VL.le (vl rfl) (one_cellsP _))⟩, ⟨⟨rfl, ⟨_, rfl, Pr.le_trans (nil_slice 1) (one_cellsP _)⟩⟩, ⟨⟨rfl, ⟨_, rfl, Pr.le_trans (full_le _ _) (one_cellsP _)⟩⟩, trivial⟩⟩⟩⟩⟩ rfl) (tp rfl (ok_buildSlice (xs := [.const (.int .i64 (60))]) (rows := [[_]]) rfl rfl Tryz.underlying22 sz3 z3 rfl (by decide) ⟨⟨(by exact rfl), (VL.le (vl rfl) (one_cellsP _))⟩, trivial⟩ (by decide)) ?_)
 refine tp rfl (ok_build (rows := [(0, [_]), (1, [_]), (2, [_]), (3, [_]), (4, [_])]) rfl bl201 zo201 ⟨⟨rfl, (VL.le (vl rfl) (one_cellsP _))⟩, ⟨⟨rfl, (VL.le (vl rfl) (one_cellsP _))⟩, ⟨⟨rfl, (VL.le (vl rfl) (one_cellsP _))⟩, ⟨⟨rfl, ⟨_, rfl, Pr.le_trans (nil_slice 1) (one_cellsP _)⟩⟩, ⟨⟨rfl, ⟨_, rfl, Pr.le_trans (full_le _ _) (one_cellsP _)⟩⟩, trivial⟩⟩⟩⟩⟩ rfl) (tp rfl (ok_buildSlice (xs := [.const (.int .i64 (128))]) (rows := [[_]]) rfl rfl Tryz.underlying22 sz3 z3 rfl (by decide) ⟨⟨(by exact rfl), (VL.le (vl rfl) (one_cellsP _))⟩, trivial⟩ (by decide)) ?_)
 refine tp rfl (ok_build (rows := [(0, [_]), (1, [_]), (2, [_]), (3, [_]), (4, [_])]) rfl bl201 zo201 ⟨⟨rfl, (VL.le (vl rfl) (one_cellsP _))⟩, ⟨⟨rfl, (VL.le (vl rfl) (one_cellsP _))⟩, ⟨⟨rfl, (VL.le (vl rfl) (one_cellsP _))⟩, ⟨⟨rfl, ⟨_, rfl, Pr.le_trans (nil_slice 1) (one_cellsP _)⟩⟩, ⟨⟨rfl, ⟨_, rfl, Pr.le_trans (full_le _ _) (one_cellsP _)⟩⟩, trivial⟩⟩⟩⟩⟩ rfl) (tp rfl (ok_buildSlice (xs := [.const (.int .i64 (192))]) (rows := [[_]]) rfl rfl Tryz.underlying22 sz3 z3 rfl (by decide) ⟨⟨(by exact rfl), (VL.le (vl rfl) (one_cellsP _))⟩, trivial⟩ (by decide)) ?_)
 refine tp rfl (ok_build (rows := [(0, [_]), (1, [_]), (2, [_]), (3, [_]), (4, [_])]) rfl bl201 zo201 ⟨⟨rfl, (VL.le (vl rfl) (one_cellsP _))⟩, ⟨⟨rfl, (VL.le (vl rfl) (one_cellsP _))⟩, ⟨⟨rfl, (VL.le (vl rfl) (one_cellsP _))⟩, ⟨⟨rfl, ⟨_, rfl, Pr.le_trans (nil_slice 1) (one_cellsP _)⟩⟩, ⟨⟨rfl, ⟨_, rfl, Pr.le_trans (full_le _ _) (one_cellsP _)⟩⟩, trivial⟩⟩⟩⟩⟩ rfl) (tp rfl (ok_build (rows := [(0, [_]), (1, [_]), (2, [_]), (3, [_]), (4, [_])]) rfl bl201 zo201 ⟨⟨rfl, (VL.le (vl rfl) (one_cellsP _))⟩, ⟨⟨rfl, (VL.le (vl rfl) (one_cellsP _))⟩, ⟨⟨rfl, (VL.le (vl rfl) (one_cellsP _))⟩, ⟨⟨rfl, ⟨_, rfl, Pr.le_trans (nil_slice 1) (one_cellsP _)⟩⟩, ⟨⟨rfl, ⟨_, rfl, Pr.le_trans (nil_slice 1) (one_cellsP _)⟩⟩, trivial⟩⟩⟩⟩⟩ rfl) (tp rfl (ok_build (rows := [(0, [_]), (1, [_]), (2, [_]), (3, [_]), (4, [_])]) rfl bl201 zo201 ⟨⟨rfl, (VL.le (vl rfl) (one_cellsP _))⟩, ⟨⟨rfl, (VL.le (vl rfl) (one_cellsP _))⟩, ⟨⟨rfl, (VL.le (vl rfl) (one_cellsP _))⟩, ⟨⟨rfl, ⟨_, rfl, Pr.le_trans (nil_slice 1) (one_cellsP _)⟩⟩, ⟨⟨rfl, ⟨_, rfl, Pr.le_trans (nil_slice 1) (one_cellsP _)⟩⟩, trivial⟩⟩⟩⟩⟩ rfl) (tp rfl (ok_build (rows := [(0, [_]), (1, [_]), (2, [_]), (3, [_]), (4, [_])]) rfl bl201 zo201 ⟨⟨rfl, (VL.le (vl rfl) (one_cellsP _))⟩, ⟨⟨rfl, (VL.le (vl rfl) (one_cellsP _))⟩, ⟨⟨rfl, (VL.le (vl rfl) (one_cellsP _))⟩, ⟨⟨rfl, ⟨_, rfl, Pr.le_trans (nil_slice 1) (one_cellsP _)⟩⟩, ⟨⟨rfl, ⟨_, rfl, Pr.le_trans (nil_slice 1) (one_cellsP _)⟩⟩, trivial⟩⟩⟩⟩⟩ rfl) (tp rfl (ok_buildSlice (xs := [.const (.int .i64 (128))]) (rows := [[_]]) rfl rfl Tryz.underlying22 sz3 z3 rfl (by decide) ⟨⟨(by exact rfl), (VL.le (vl rfl) (one_cellsP _))⟩, trivial⟩ (by decide)) ?_))))
 refine tp rfl (ok_build (rows := [(0, [_]), (1, [_]), (2, [_]), (3, [_]), (4, [_])]) rfl bl201 zo201 ⟨⟨rfl, (VL.le (vl rfl) (one_cellsP _))⟩, ⟨⟨rfl, (VL.le (vl rfl) (one_cellsP _))⟩, ⟨⟨rfl, (VL.le (vl rfl) (one_cellsP _))⟩, ⟨⟨rfl, ⟨_, rfl, Pr.le_trans (nil_slice 1) (one_cellsP _)⟩⟩, ⟨⟨rfl, ⟨_, rfl, Pr.le_trans (full_le _ _) (one_cellsP _)⟩⟩, trivial⟩⟩⟩⟩⟩ rfl) ?_
 refine ap ?_
 refine tp rfl (ok_build (rows := [(0, [_]), (1, [_]), (2, [_]), (3, [_]), (4, [_])]) rfl bl201 zo201 ⟨⟨rfl, (VL.le (vl rfl) (one_cellsP _))⟩, ⟨⟨rfl, (VL.le (vl rfl) (one_cellsP _))⟩, ⟨⟨rfl, (VL.le (vl rfl) (one_cellsP _))⟩, ⟨⟨rfl, ⟨_, rfl, Pr.le_trans (full_le _ _) (one_cellsP _)⟩⟩, ⟨⟨rfl, ⟨_, rfl, Pr.le_trans (full_le _ _) (one_cellsP _)⟩⟩, trivial⟩⟩⟩⟩⟩ rfl) (tp rfl (ok_build (rows := [(0, [_]), (1, [_]), (2, [_]), (3, [_]), (4, [_])]) rfl bl201 zo201 ⟨⟨rfl, (VL.le (vl rfl) (one_cellsP _))⟩, ⟨⟨rfl, (VL.le (vl rfl) (one_cellsP _))⟩, ⟨⟨rfl, (VL.le (vl rfl) (one_cellsP _))⟩, ⟨⟨rfl, ⟨_, rfl, Pr.le_trans (nil_slice 1) (one_cellsP _)⟩⟩, ⟨⟨rfl, ⟨_, rfl, Pr.le_trans (nil_slice 1) (one_cellsP _)⟩⟩, trivial⟩⟩⟩⟩⟩ rfl) (tp rfl (ok_build (rows := [(0, [_]), (1, [_]), (2, [_]), (3, [_]), (4, [_])]) rfl bl201 zo201 ⟨⟨rfl, (VL.le (vl rfl) (one_cellsP _))⟩, ⟨⟨rfl, (VL.le (vl rfl) (one_cellsP _))⟩, ⟨⟨rfl, (VL.le (vl rfl) (one_cellsP _))⟩, ⟨⟨rfl, ⟨_, rfl, Pr.le_trans (nil_slice 1) (one_cellsP _)⟩⟩, ⟨⟨rfl, ⟨_, rfl, Pr.le_trans (nil_slice 1) (one_cellsP _)⟩⟩, trivial⟩⟩⟩⟩⟩ rfl) (tp rfl (ok_build (rows := [(0, [_]), (1, [_]), (2, [_]), (3, [_]), (4, [_])]) rfl bl201 zo201 ⟨⟨rfl, (VL.le (vl rfl) (one_cellsP _))⟩, ⟨⟨rfl, (VL.le (vl rfl) (one_cellsP _))⟩, ⟨⟨rfl, (VL.le (vl rfl) (one_cellsP _))⟩, ⟨⟨rfl, ⟨_, rfl, Pr.le_trans (nil_slice 1) (one_cellsP _)⟩⟩, ⟨⟨rfl, ⟨_, rfl, Pr.le_trans (nil_slice 1) (one_cellsP _)⟩⟩, trivial⟩⟩⟩⟩⟩ rfl) ?_)))
 refine ap ?_
 refine tp rfl (ok_build (rows := [(0, [_]), (1, [_]), (2, [_]), (3, [_]), (4, [_])]) rfl bl201 zo201 ⟨⟨rfl, (VL.le (vl rfl) (one_cellsP _))⟩, ⟨⟨rfl, (VL.le (vl rfl) (one_cellsP _))⟩, ⟨⟨rfl, (VL.le (vl rfl) (one_cellsP _))⟩, ⟨⟨rfl, ⟨_, rfl, Pr.le_trans (full_le _ _) (one_cellsP _)⟩⟩, ⟨⟨rfl, ⟨_, rfl, Pr.le_trans (full_le _ _) (one_cellsP _)⟩⟩, trivial⟩⟩⟩⟩⟩ rfl) ?_
 refine ap ?_
 refine tp rfl (ok_build (rows := [(0, [_]), (1, [_]), (2, [_]), (3, [_]), (4, [_])]) rfl bl201 zo201 ⟨⟨rfl, (VL.le (vl rfl) (one_cellsP _))⟩, ⟨⟨rfl, (VL.le (vl rfl) (one_cellsP _))⟩, ⟨⟨rfl, (VL.le (vl rfl) (one_cellsP _))⟩, ⟨⟨rfl, ⟨_, rfl, Pr.le_trans (full_le _ _) (one_cellsP _)⟩⟩, ⟨⟨rfl, ⟨_, rfl, Pr.le_trans (full_le _ _) (one_cellsP _)⟩⟩, trivial⟩⟩⟩⟩⟩ rfl) ?_
 refine ap ?_
 refine tp rfl (ok_build (rows := [(0, [_]), (1, [_]), (2, [_]), (3, [_]), (4, [_])]) rfl bl201 zo201 ⟨⟨rfl, (VL.le (vl rfl) (one_cellsP _))⟩, ⟨⟨rfl, (VL.le (vl rfl) (one_cellsP _))⟩, ⟨⟨rfl, (VL.le (vl rfl) (one_cellsP _))⟩, ⟨⟨rfl, ⟨_, rfl, Pr.le_trans (full_le _ _) (one_cellsP _)⟩⟩, ⟨⟨rfl, ⟨_, rfl, Pr.le_trans (full_le _ _) (one_cellsP _)⟩⟩, trivial⟩⟩⟩⟩⟩ rfl) ?_
 refine ap ?_
 refine tp rfl (ok_build (rows := [(0, [_]), (1, [_]), (2, [_]), (3, [_]), (4, [_])]) rfl bl201 zo201 ⟨⟨rfl, (VL.le (vl rfl) (one_cellsP _))⟩, ⟨⟨rfl, (VL.le (vl rfl) (one_cellsP _))⟩, ⟨⟨rfl, (VL.le (vl rfl) (one_cellsP _))⟩, ⟨⟨rfl, ⟨_, rfl, Pr.le_trans (full_le _ _) (one_cellsP _)⟩⟩, ⟨⟨rfl, ⟨_, rfl, Pr.le_trans (full_le _ _) (one_cellsP _)⟩⟩, trivial⟩⟩⟩⟩⟩ rfl) ?_
 refine ap ?_
 refine tp rfl (ok_build (rows := [(0, [_]), (1, [_]), (2, [_]), (3, [_]), (4, [_])]) rfl bl201 zo201 ⟨⟨rfl, (VL.le (vl rfl) (one_cellsP _))⟩, ⟨⟨rfl, (VL.le (vl rfl) (one_cellsP _))⟩, ⟨⟨rfl, (VL.le (vl rfl) (one_cellsP _))⟩, ⟨⟨rfl, ⟨_, rfl, Pr.le_trans (full_le _ _) (one_cellsP _)⟩⟩, ⟨⟨rfl, ⟨_, rfl, Pr.le_trans (full_le _ _) (one_cellsP _)⟩⟩, trivial⟩⟩⟩⟩⟩ rfl) (tp rfl (ok_buildSlice (xs := [.const (.int .i64 (256))]) (rows := [[_]]) rfl rfl Tryz.underlying22 sz3 z3 rfl (by decide) ⟨⟨(by exact rfl), (VL.le (vl rfl) (one_cellsP _))⟩, trivial⟩ (by decide)) ?_)
 refine tp rfl (ok_build (rows := [(0, [_]), (1, [_]), (2, [_]), (3, [_]), (4, [_])]) rfl bl201 zo201 ⟨⟨rfl, (VL.le (vl rfl) (one_cellsP _))⟩, ⟨⟨rfl, (VL.le (vl rfl) (one_cellsP _))⟩, ⟨⟨rfl, (VL.le (vl rfl) (one_cellsP _))⟩, ⟨⟨rfl, ⟨_, rfl, Pr.le_trans (nil_slice 1) (one_cellsP _)⟩⟩, ⟨⟨rfl, ⟨_, rfl, Pr.le_trans (full_le _ _) (one_cellsP _)⟩⟩, trivial⟩⟩⟩⟩⟩ rfl) (tp rfl (ok_buildSlice (xs := [.const (.int .i64 (64))]) (rows := [[_]]) rfl rfl Tryz.underlying22 sz3 z3 rfl (by decide) ⟨⟨(by exact rfl), (VL.le (vl rfl) (one_cellsP _))⟩, trivial⟩ (by decide)) ?_)
 refine tp rfl (ok_build (rows := [(0, [_]), (1, [_]), (2, [_]), (3, [_]), (4, [_])]) rfl bl201 zo201 ⟨⟨rfl, (VL.le (vl rfl) (one_cellsP _))⟩, ⟨⟨rfl, (VL.le (vl rfl) (one_cellsP _))⟩, ⟨⟨rfl, (VL.le (vl rfl) (one_cellsP _))⟩, ⟨⟨rfl, ⟨_, rfl, Pr.le_trans (nil_slice 1) (one_cellsP _)⟩⟩, ⟨⟨rfl, ⟨_, rfl, Pr.le_trans (full_le _ _) (one_cellsP _)⟩⟩, trivial⟩⟩⟩⟩⟩ rfl) (tp rfl (ok_buildSlice (xs := [.const (.int .i64 (80))]) (rows := [[_]]) rfl rfl Tryz.underlying22 sz3 z3 rfl (by decide) ⟨⟨(by exact rfl), (VL.le (vl rfl) (one_cellsP _))⟩, trivial⟩ (by decide)) ?_)
 refine tp rfl (ok_build (rows := [(0, [_]), (1, [_]), (2, [_]), (3, [_]), (4, [_])]) rfl bl201 zo201 ⟨⟨rfl, (VL.le (vl rfl) (one_cellsP _))⟩, ⟨⟨rfl, (VL.le (vl rfl) (one_cellsP _))⟩, ⟨⟨rfl, (VL.le (vl rfl) (one_cellsP _))⟩, ⟨⟨rfl, ⟨_, rfl, Pr.le_trans (nil_slice 1) (one_cellsP _)⟩⟩, ⟨⟨rfl, ⟨_, rfl, Pr.le_trans (full_le _ _) (one_cellsP _)⟩⟩, trivial⟩⟩⟩⟩⟩ rfl) (tp rfl (ok_buildSlice (xs := [.const (.int .i64 (128))]) (rows := [[_]]) rfl rfl Tryz.underlying22 sz3 z3 rfl (by decide) ⟨⟨(by exact rfl), (VL.le (vl rfl) (one_cellsP _))⟩, trivial⟩ (by decide)) ?_)
 refine tp rfl (ok_build (rows := [(0, [_]), (1, [_]), (2, [_]), (3, [_]), (4, [_])]) rfl bl201 zo201 ⟨⟨rfl, (VL.le (vl rfl) (one_cellsP _))⟩, ⟨⟨rfl, (VL.le (vl rfl) (one_cellsP _))⟩, ⟨⟨rfl, (VL.le (vl rfl) (one_cellsP _))⟩, ⟨⟨rfl, ⟨_, rfl, Pr.le_trans (nil_slice 1) (one_cellsP _)⟩⟩, ⟨⟨rfl, ⟨_, rfl, Pr.le_trans (full_le _ _) (one_cellsP _)⟩⟩, trivial⟩⟩⟩⟩⟩ rfl) (tp rfl (ok_buildSlice (xs := [.const (.int .i64 (256))]) (rows := [[_]]) rfl rfl Tryz.underlying22 sz3 z3 rfl (by decide) ⟨⟨(by exact rfl), (VL.le (vl rfl) (one_cellsP _))⟩, trivial⟩ (by decide)) ?_)
 refine tp rfl (ok_build (rows := [(0, [_]), (1, [_]), (2, [_]), (3, [_]), (4, [_])]) rfl bl201 zo201 ⟨⟨rfl, (VL.le (vl rfl) (one_cellsP _))⟩, ⟨⟨rfl, (VL.le (vl rfl) (one_cellsP _))⟩, ⟨⟨rfl, (VL.le (vl rfl) (one_cellsP _))⟩, ⟨⟨rfl, ⟨_, rfl, Pr.le_trans (nil_slice 1) (one_cellsP _)⟩⟩, ⟨⟨rfl, ⟨_, rfl, Pr.le_trans (full_le _ _) (one_cellsP _)⟩⟩, trivial⟩⟩⟩⟩⟩ rfl) ?_
 refine ap ?_
 refine wk1 0 rfl (Tr.ret (Fin.retX1 rfl (RVal.cell 0 rfl rfl agg237 sz237 rfl (Pr.le_refl _)) ?_))
 · exact agg_le ⟨Pr.le_refl _, Pr.le_refl _, Pr.le_refl _, nil_slice 1, nil_slice 1, Pr.le_refl _, Pr.le_refl _, Pr.le_refl _, Pr.le_refl _, Pr.le_refl _, Pr.le_refl _, Pr.le_refl _, Pr.le_refl _, Pr.le_refl _, Pr.le_refl _, Pr.le_refl _, Pr.le_refl _, Pr.le_refl _, Pr.le_refl _, Pr.le_refl _, Pr.le_refl _, Pr.le_refl _, Pr.le_refl _, Pr.le_refl _, Pr.le_refl _, Pr.le_refl _, Pr.le_refl _, Pr.le_refl _, Pr.le_refl _, Pr.le_refl _, Pr.le_refl _, Pr.le_refl _, Pr.le_refl _, Pr.le_refl _, Pr.le_refl _, Pr.le_refl _, Pr.le_refl _, Pr.le_refl _, Pr.le_refl _, Pr.le_refl _, Pr.le_refl _, Pr.le_refl _, Pr.le_refl _, Pr.le_refl _, Pr.le_refl _, Pr.le_refl _, Pr.le_refl _, Pr.le_refl _, Pr.le_refl _, Pr.le_refl _, Pr.le_refl _, Pr.le_refl _, Pr.le_refl _, Pr.le_refl _, Pr.le_refl _, Pr.le_refl _, Pr.le_refl _, Pr.le_refl _, Pr.le_refl _, Pr.le_refl _, Pr.le_refl _, Pr.le_refl _, Pr.le_refl _, Pr.le_refl _, Pr.le_refl _, Pr.le_refl _, Pr.le_refl _, Pr.le_refl _, Pr.le_refl _, Pr.le_refl _, Pr.le_refl _, Pr.le_refl _, Pr.le_refl _, Pr.le_refl _, Pr.le_refl _, Pr.le_refl _, Pr.le_refl _, Pr.le_refl _, Pr.le_refl _, Pr.le_refl _, Pr.le_refl _, Pr.le_refl _, Pr.le_refl _, Pr.le_refl _, Pr.le_refl _, Pr.le_refl _, Pr.le_refl _, Pr.le_refl _, Pr.le_refl _, Pr.le_refl _, Pr.le_refl _, Pr.le_refl _, Pr.le_refl _, Pr.le_refl _, Pr.le_refl _, Pr.le_refl _, Pr.le_refl _, Pr.le_refl _, Pr.le_refl _, Pr.le_refl _, Pr.le_refl _, Pr.le_refl _, Pr.le_refl _, Pr.le_refl _, Pr.le_refl _, Pr.le_refl _, Pr.le_refl _, Pr.le_refl _, Pr.le_refl _, Pr.le_refl _, Pr.le_refl _, Pr.le_refl _, Pr.le_refl _, Pr.le_refl _, Pr.le_refl _, trivial⟩
theorem w_of {alg : Int}  : Fun Tryz.prog 171 [int alg] (tup [agg (rowC (catOf alg)), bool (decide (1 ≤ alg ∧ alg ≤ 22))]) := by
 refine fo Tryz.func171 rfl ⟨rfl, rfl⟩ fun M0 w0 => (Tr.seq (Tr.regT ?_))
 refine TO.alloc rfl rfl (by decide) rfl z201 zo201 (fun b1 => ?_)
 refine ap ?_
 refine ac ?_
 refine Ch.cs 6 rfl ?_ ?_ <;> intro h1 q1
 refine ac ?_
 refine Tr.cond rfl (fun _ => ?_) (fun h => nomatch h)
 refine Tr.seq (Tr.regT (tp rfl (ok_build (rows := []) rfl bl201 zo201 trivial rfl) (TO.store_all 0 rfl rfl rfl (vl rfl) (VL.le (vl rfl) (agg_cellsP _)) rfl sz201 rfl rfl (tm rfl (TO.nil (Fin.go (Tr.ret (Fin.then_ret (Fin.retX2 rfl (RVal.cell 0 rfl rfl agg201 sz201 rfl (Pr.le_refl _)) (RVal.tmp rfl (Pr.le_refl _)) ?_)))))))))
 · refine tup_le ⟨?_, bool_eq (by symm; rw [decide_eq_false_iff_not]; omega), trivial⟩; unfold catOf; rw [if_neg (by omega)]; exact agg_le ⟨Pr.le_refl _, Pr.le_refl _, Pr.le_refl _, nil_slice 1, nil_slice 1, trivial⟩
 refine ac ?_
 refine Tr.cn rfl ?_ ?_ <;> intro h2 q2
 refine ap ?_
 refine Tr.ret (Fin.then_ret (Fin.retX2 rfl (RVal.cell 0 rfl rfl agg201 sz201 rfl (Pr.le_refl _)) (RVal.tmp rfl (Pr.le_refl _)) ?_))
 · refine tup_le ⟨?_, bool_eq (by symm; rw [decide_eq_false_iff_not]; omega), trivial⟩; unfold catOf; rw [if_neg (by omega)]; exact agg_le ⟨Pr.le_refl _, Pr.le_refl _, Pr.le_refl _, nil_slice 1, nil_slice 1, trivial⟩
 have hin : 1 ≤ alg ∧ alg ≤ 22 := by omega
 refine ac ?_
 refine Tr.seq (Tr.regT (tp rfl (kc0 (w_rows) rfl) (tm rfl (tp rfl (ok_index rfl Tryz.underlying237 agg201 sz201 (vl rfl) (vl rfl) (by omega) (by omega) (flat_row (f := rowC) (fun _ => rfl) (catTable_at hin))) ?_))))
 refine ap ?_
 refine Tr.ret (Fin.retX2 rfl (RVal.cell 0 rfl rfl agg201 sz201 rfl (Pr.le_refl _)) (RVal.tmp rfl (Pr.le_refl _)) ?_)
 · exact tup_le ⟨Pr.le_refl _, bool_eq (by symm; rw [decide_eq_true_eq]; exact hin), trivial⟩
theorem w_Kind {alg : Int}  : Fun Tryz.prog 133 [int alg] (int (catOf alg).kind) := by
 refine fo Tryz.func133 rfl ⟨rfl, rfl⟩ fun M0 w0 => ?_
 refine ac ?_
 refine ao ?_
 refine tp rfl (kc1 (w_of) rfl rfl) ?_
 refine ao ?_
 refine TO.alloc rfl rfl (by decide) rfl z201 zo201 (fun b1 => ?_)
 refine sf 0 3 ⟨rfl, rfl, rfl⟩ rfl rfl rfl rfl ?_
 refine ao ?_
 refine ac ?_
 refine ac ?_
 · exact Pr.le_refl _
theorem w_modulus {b : Int}  : Fun Tryz.prog 220 [int b] (int (modI b)) := by
 refine fo Tryz.func220 rfl ⟨rfl, rfl⟩ fun M0 w0 => ?_
 have hml : mods.length = 5 := rfl
 refine ac ?_
 refine ac ?_
 refine Tr.block (Tr.re 10 rfl (Pr.le_of_eq (show _ = agg (mods.flatMap fun p => [int p.1, int p.2]) from rfl)) (Tr.loopw [(0, _), (10, _)] (kk2 rfl) (fun k : Nat => [(11, int ((k : Nat) : Int))]) (fun k : Nat => k ≤ (mods).length ∧ (modI b = modF (mods.drop k) b)) (fun k : Nat => (mods).length - k) 0 (⟨Nat.zero_le _, rfl⟩) ⟨ke rfl, trivial⟩ ?_))
 rintro k ⟨hle_k, hinv_k⟩
 refine ac ?_
 refine Tr.seq ?_
 refine Tr.cn rfl ?_ ?_ <;> intro h1 q1
 have hk_k : k < (mods).length := lt_of_dec h1
 obtain ⟨p, hx_k⟩ := at_ hk_k
 have hL : k < 5 := hk_k
 have hdr := drop_cons hx_k
 refine ac ?_
 refine Tr.seq (Tr.block (Tr.seq (Tr.regT (tp rfl (ok_index rfl Tryz.underlying260 agg259 sz259 (vl rfl) (vl rfl) (by omega) (by omega) (flat_row (f := fun p : Int × Int => [int p.1, int p.2]) (fun _ => rfl) hx_k)) ?_))))
 refine TO.alloc rfl rfl (by decide) rfl z259 zo259 (fun b1 => ?_)
 refine sf 0 4 ⟨rfl, rfl, rfl⟩ rfl rfl rfl rfl ?_
 refine ao ?_
 refine ac ?_
 refine co rfl (ok_indexArr rfl Tryz.underlying259 sz3 (vl rfl) (vl rfl) (by omega) (by omega) rfl) (co rfl (ok_load_hd rfl one3 (vl rfl) rfl) ?_)
 refine ac ?_
 refine Tr.cn rfl ?_ ?_ <;> intro h2 q2
 refine Tr.seq (Tr.reg0 (co rfl (ok_indexArr rfl Tryz.underlying259 sz3 (vl rfl) (vl rfl) (by omega) (by omega) rfl) (co rfl (ok_load_hd rfl one3 (vl rfl) rfl) ?_)))
 refine ac ?_
 refine wk1 2 rfl ?_
 refine ac ?_
 · refine int_eq ?_; rw [hinv_k, hdr]; exact (if_pos (by omega)).symm
 refine ac ?_
 refine ac ?_
 exact Fin.fam_same (k + 1) ⟨⟨hk_k, (by rw [hinv_k, hdr]; exact if_neg (by omega))⟩, by omega⟩ ⟨⟨_, rfl, int_succ k⟩, ke rfl, ke rfl, trivial⟩
 have he_k : k = (mods).length := by have := ge_of_dec h1; omega
 subst he_k
 refine ac ?_
 refine ac ?_
 refine ac ?_
 · refine int_eq ?_; rw [hinv_k, List.drop_length]; rfl
end Go.Proofs.YtflodcidhlmaaaaGreat
namespace Go.Proofs.YtflodcidhlmaaaaGreat
open Go Go.RowKit Cp

def curvs : List Int := [160, 224, 256, 384, 521]
def strength (alg bits : Int) : Int :=
  if 1 ≤ alg ∧ alg ≤ 22 then
    if (catOf alg).way = 0 then (if bits = 0 then ((catOf alg).strengths[0]?).getD 0 else 0)
    else if (catOf alg).way = 1 then (if 512 ≤ bits ∧ bits ≤ 16384 then modI bits else 0)
    else if (catOf alg).way = 2 then (if (curvs.any fun x => bits == x) = true then bits.tdiv 2 else 0)
    else if (catOf alg).way = 3 then (if 0 ≤ idx (fun x => bits == x) (catOf alg).sizes then ((catOf alg).strengths[(idx (fun x => bits == x) (catOf alg).sizes).toNat]?).getD 0 else 0)
    else 0
  else 0
theorem catOf_tail {alg : Int} (h : 1 ≤ alg ∧ alg ≤ 22) : catOf alg ∈ catTable.tail := by
  have h1 := catTable_at h
  refine List.mem_of_getElem? (i := alg.toNat - 1) ?_
  rw [List.getElem?_tail, show alg.toNat - 1 + 1 = alg.toNat by omega]; exact h1
theorem cat_ok : ∀ r ∈ catTable.tail, (r.way = 0 → 1 ≤ r.strengths.length) ∧ (r.way = 3 → r.sizes.length ≤ r.strengths.length) := by decide
theorem idx_lt {β : Type} (p : β → Bool) (l : List β) : idx p l < l.length := by
  unfold idx
  cases h : l.findIdx? p with
  | none => simp; omega
  | some i => rw [List.findIdx?_eq_some_iff_getElem] at h; obtain ⟨h1, _⟩ := h; simp; omega

theorem w_Strength {alg bits : Int}  : Fun Tryz.prog 170 [agg [int alg, int bits]] (int (strength alg bits)) := by
 refine fo Tryz.func170 rfl ⟨rfl, rfl⟩ fun M0 w0 => ?_
 refine ac ?_
 refine ao ?_
 refine tp rfl (kc1 (w_of) rfl rfl) ?_
 refine ao ?_
 refine TO.alloc rfl rfl (by decide) rfl z201 zo201 (fun b1 => ?_)
 refine sf 0 3 ⟨rfl, rfl, rfl⟩ rfl rfl rfl rfl ?_
 refine ao ?_
 refine ac ?_
 refine wk3 1 3 13 rfl ?_
 refine Tr.cn rfl ?_ ?_ <;> intro h1 q1
 refine ac ?_
 refine ac ?_
 · refine int_eq ?_; unfold strength; rw [if_neg (by intro hh; simp [hh] at h1)]
 have hin : 1 ≤ alg ∧ alg ≤ 22 := by simpa using h1
 obtain ⟨hc0, hc3⟩ := cat_ok _ (catOf_tail hin)
 refine ac ?_
 refine ac ?_
 refine ac ?_
 refine Tr.cn rfl ?_ ?_ <;> intro h2 q2
 refine ac ?_
 refine Tr.cn rfl ?_ ?_ <;> intro h3 q3
 obtain ⟨z, hz⟩ := at_ (l := (catOf alg).strengths) (k := 0) (hc0 (by omega))
 refine ac ?_
 refine co rfl (ok_indexAddr rfl Tryz.underlying22 sz3 (vl rfl) (vl rfl) (by omega) (row_at (k := 0) hz)) ?_
 refine ac ?_
 refine wk1 2 rfl ?_
 refine ac ?_
 · refine int_eq ?_; unfold strength; rw [if_pos hin, if_pos (by omega), if_pos (by omega), hz]; rfl
 refine ac ?_
 refine ac ?_
 refine ac ?_
 · refine int_eq ?_; unfold strength; rw [if_pos hin, if_pos (by omega), if_neg (by omega)]
 refine ac ?_
 refine Tr.cn rfl ?_ ?_ <;> intro h4 q4
 refine ac ?_
 refine Ch.cs 30 rfl ?_ ?_ <;> intro h5 q5
 refine ac ?_
 refine wk2 1 34 rfl ?_
 refine Tr.cn rfl ?_ ?_ <;> intro h6 q6
 refine ac ?_
 refine co rfl (kc1 (w_modulus) rfl rfl) ?_
 refine ac ?_
 refine ac ?_
 · refine int_eq ?_; unfold strength; rw [if_pos hin, if_neg (by omega), if_pos (by omega), if_pos (by omega)]
 refine ac ?_
 refine ac ?_
 refine ac ?_
 · refine int_eq ?_; unfold strength; rw [if_pos hin, if_neg (by omega), if_pos (by omega), if_neg (by omega)]
 refine ac ?_
 refine wk2 1 34 rfl ?_
 refine ac ?_
 refine ac ?_
 refine ac ?_
 · refine int_eq ?_; unfold strength; rw [if_pos hin, if_neg (by omega), if_pos (by omega), if_neg (by omega)]
 refine ac ?_
 refine Tr.cn rfl ?_ ?_ <;> intro h7 q7
 refine ac ?_
 refine co rfl (ok_call rfl (w_ContainsI (l := curvs)) ⟨⟨_, rfl, full_le _ _⟩, ke rfl, trivial⟩) ?_
 refine ac ?_
 refine wk2 1 43 rfl ?_
 refine Tr.cn rfl ?_ ?_ <;> intro h8 q8
 have hb : bits = 160 ∨ bits = 224 ∨ bits = 256 ∨ bits = 384 ∨ bits = 521 := by simpa [curvs] using h8
 refine ac ?_
 refine co rfl (ok_quo rfl (vl rfl) (vl rfl) (by omega)) ?_
 refine ac ?_
 refine ac ?_
 · refine int_eq ?_; unfold strength; rw [if_pos hin, if_neg (by omega), if_neg (by omega), if_pos (by omega), if_pos (by assumption)]; rcases hb with h | h | h | h | h <;> rw [h] <;> rfl
 refine ac ?_
 refine ac ?_
 refine ac ?_
 · refine int_eq ?_; unfold strength; rw [if_pos hin, if_neg (by omega), if_neg (by omega), if_pos (by omega), if_neg (ne_true (by assumption))]
 refine ac ?_
 refine Tr.cn rfl ?_ ?_ <;> intro h9 q9
 refine ac ?_
 refine co rfl (kc2 (w_IndexI) rfl rfl rfl) ?_
 refine ac ?_
 refine wk2 3 5 rfl ?_
 refine ac ?_
 refine Tr.cn rfl ?_ ?_ <;> intro h10 q10
 have hlt := idx_lt (fun x => bits == x) (catOf alg).sizes
 obtain ⟨z, hz⟩ := at_ (l := (catOf alg).strengths) (k := (idx (fun x => bits == x) (catOf alg).sizes).toNat) (by have := hc3 (by omega); omega)
 refine ac ?_
 refine co rfl (ok_indexAddr rfl Tryz.underlying22 sz3 (vl rfl) (vl rfl) (by omega) (row_atI hz)) ?_
 refine ac ?_
 refine ac ?_
 · refine int_eq ?_; unfold strength; rw [if_pos hin, if_neg (by omega), if_neg (by omega), if_neg (by omega), if_pos (by omega), if_pos (by assumption), hz]; rfl
 refine ac ?_
 refine ac ?_
 refine ac ?_
 · refine int_eq ?_; unfold strength; rw [if_pos hin, if_neg (by omega), if_neg (by omega), if_neg (by omega), if_pos (by omega), if_neg (by omega)]
 refine ac ?_
 refine ac ?_
 refine wk1 2 rfl ?_
 refine ac ?_
 · refine int_eq ?_; unfold strength; rw [if_pos hin, if_neg (by omega), if_neg (by omega), if_neg (by omega), if_neg (by omega)]
theorem w_Valid {alg bits : Int}  : Fun Tryz.prog 132 [agg [int alg, int bits]] (bool (decide (strength alg bits > 0))) := by
 refine fo Tryz.func132 rfl ⟨rfl, rfl⟩ fun M0 w0 => ?_
 refine ac ?_
 refine ac ?_
 refine co rfl (kc1 (w_Strength) rfl rfl) ?_
 refine ac ?_
 refine ac ?_
 · exact Pr.le_refl _
end Go.Proofs.YtflodcidhlmaaaaGreat
namespace Go.Proofs.YtflodcidhlmaaaaGreat
open Go Go.RowKit Cp

def amongI (b : Int) (l m : List Int) : Int := if 0 ≤ idx (fun x => b == x) l then (m[(idx (fun x => b == x) l).toNat]?).getD 0 else 0
theorem among_hit {b : Int} {l m : List Int} {k : Nat} {x z : Int} (hx : l[k]? = some x) (he : x = b) (hz : m[k]? = some z) (h : ∀ j y, j < k → l[j]? = some y → (b == y) = false) : z = amongI b l m := by
  have := idx_found (p := fun x => b == x) hx (by simp [he]) h
  unfold amongI; rw [← this, if_pos (by omega), Int.toNat_natCast, hz]; rfl
theorem among_none {b : Int} {l m : List Int} (h : ∀ j y, j < l.length → l[j]? = some y → (b == y) = false) : 0 = amongI b l m := by
  have := idx_none (p := fun x => b == x) h
  unfold amongI; rw [← this, if_neg (by omega)]
def singleI (alg : Int) : Int := if alg = 1 then 18 else if alg = 2 then 60 else if alg = 3 ∨ alg = 8 ∨ alg = 21 then 128 else if alg = 4 then 192 else if alg = 18 ∨ alg = 22 then 256 else if alg = 19 then 64 else if alg = 20 then 80 else 0
def rmodI (b : Int) : Int := if b < 512 ∨ b > 16384 then 0 else if b < 1024 then 56 else if b < 2048 then 80 else if b < 3072 then 112 else if b < 7680 then 128 else if b < 15360 then 192 else 256
theorem rmodI_eq (b : Int) : rmodI b = if 512 ≤ b ∧ b ≤ 16384 then modI b else 0 := by
  have h1 : modI b = if b < 1024 then 56 else if b < 2048 then 80 else if b < 3072 then 112 else if b < 7680 then 128 else if b < 15360 then 192 else 256 := rfl
  rw [h1]; unfold rmodI
  by_cases h : 512 ≤ b ∧ b ≤ 16384
  · rw [if_pos h, if_neg (by omega)]
  · rw [if_neg h, if_pos (by omega)]

theorem w_among {b : Int} {l m : List Int} (hl : l.length ≤ m.length) : Fun Tryz.prog 231 [int b, ints l, ints m] (int (amongI b l m)) := by
 refine fo Tryz.func231 rfl ⟨rfl, rfl⟩ fun M0 w0 => (Tr.lenm 1 rfl fun hlm_1 => ?_)
 refine ac ?_
 refine ac ?_
 refine Tr.block (Tr.loopw [(0, _), (1, _), (2, _)] (kk3 rfl) (fun k : Nat => [(7, int ((k : Nat) : Int))]) (fun k : Nat => k ≤ (l).length ∧ (∀ j y, j < k → l[j]? = some y → (b == y) = false)) (fun k : Nat => (l).length - k) 0 (⟨Nat.zero_le _, fun j y hj => absurd hj (by omega)⟩) ⟨ke rfl, trivial⟩ ?_)
 rintro k ⟨hle_k, hinv_k⟩
 refine ac ?_
 refine Tr.cn rfl ?_ ?_ <;> intro h1 q1
 have hk_k : k < (l).length := lt_of_dec h1
 obtain ⟨x, hx_k⟩ := at_ hk_k
 obtain ⟨z, hz⟩ := at_ (l := m) (k := k) (by omega)
 refine ac ?_
 refine ac ?_
 refine co rfl (ok_indexAddr rfl Tryz.underlying22 sz3 (vl rfl) (vl rfl) (by omega) (by exact row_at (by assumption))) ?_
 refine ac ?_
 refine wk5 0 1 2 7 19 rfl ?_
 refine Tr.cn rfl ?_ ?_ <;> intro h2 q2
 refine ac ?_
 refine co rfl (ok_indexAddr rfl Tryz.underlying22 sz3 (vl rfl) (vl rfl) (by omega) (by exact row_at (by assumption))) ?_
 refine ac ?_
 refine ac ?_
 · exact int_eq (among_hit hx_k (by assumption) hz hinv_k)
 refine ac ?_
 refine ac ?_
 exact Fin.fam_same (k + 1) ⟨⟨hk_k, step_no (p := fun x => b == x) hx_k (by simp; omega) hinv_k⟩, by omega⟩ ⟨⟨_, rfl, int_succ k⟩, ke rfl, ke rfl, ke rfl, trivial⟩
 have he_k : k = (l).length := by have := ge_of_dec h1; omega
 subst he_k
 refine ac ?_
 refine ac ?_
 refine ac ?_
 · exact int_eq (among_none hinv_k)
theorem w_single {alg : Int}  : Fun Tryz.prog 232 [int alg] (int (singleI alg)) := by
 refine fo Tryz.func232 rfl ⟨rfl, rfl⟩ fun M0 w0 => ?_
 refine ac ?_
 refine ac ?_
 refine ac ?_
 refine Tr.cn rfl ?_ ?_ <;> intro h1 q1
 refine ac ?_
 refine ac ?_
 · refine int_eq ?_; unfold singleI; (repeat (rw [if_pos (by omega)]))
 refine ac ?_
 refine Tr.cn rfl ?_ ?_ <;> intro h2 q2
 refine ac ?_
 refine ac ?_
 · refine int_eq ?_; unfold singleI; (repeat (first | rw [if_pos (by omega)] | rw [if_neg (by omega)]))
 refine ac ?_
 refine Tr.cn rfl ?_ ?_ <;> intro h3 q3
 refine ac ?_
 refine Tr.cond rfl (fun _ => ?_) (fun h => nomatch h3.symm.trans h)
 refine ac ?_
 refine ac ?_
 · refine int_eq ?_; unfold singleI; (repeat (first | rw [if_pos (by omega)] | rw [if_neg (by omega)]))
 refine ac ?_
 refine Tr.cn rfl ?_ ?_ <;> intro h4 q4
 refine ac ?_
 refine Tr.cond rfl (fun _ => ?_) (fun h => nomatch h4.symm.trans h)
 refine ac ?_
 refine ac ?_
 · refine int_eq ?_; unfold singleI; (repeat (first | rw [if_pos (by omega)] | rw [if_neg (by omega)]))
 refine ac ?_
 refine Tr.cn rfl ?_ ?_ <;> intro h5 q5
 refine ac ?_
 refine ac ?_
 · refine int_eq ?_; unfold singleI; (repeat (first | rw [if_pos (by omega)] | rw [if_neg (by omega)]))
 refine ac ?_
 refine wk2 3 12 rfl ?_
 refine Tr.cn rfl ?_ ?_ <;> intro h6 q6
 refine ac ?_
 refine ac ?_
 · refine int_eq ?_; unfold singleI; (repeat (first | rw [if_pos (by omega)] | rw [if_neg (by omega)]))
 refine ac ?_
 refine Tr.cn rfl ?_ ?_ <;> intro h7 q7
 refine ac ?_
 refine Tr.cond rfl (fun _ => ?_) (fun h => nomatch h7.symm.trans h)
 refine ac ?_
 refine ac ?_
 · refine int_eq ?_; unfold singleI; (repeat (first | rw [if_pos (by omega)] | rw [if_neg (by omega)]))
 refine ac ?_
 refine Tr.cn rfl ?_ ?_ <;> intro h8 q8
 refine ac ?_
 refine ac ?_
 · refine int_eq ?_; unfold singleI; (repeat (first | rw [if_pos (by omega)] | rw [if_neg (by omega)]))
 refine ac ?_
 refine Tr.cn rfl ?_ ?_ <;> intro h9 q9
 refine ac ?_
 refine ac ?_
 · refine int_eq ?_; unfold singleI; (repeat (first | rw [if_pos (by omega)] | rw [if_neg (by omega)]))
 refine ac ?_
 refine Tr.cn rfl ?_ ?_ <;> intro h10 q10
 refine ac ?_
 refine ac ?_
 · refine int_eq ?_; unfold singleI; (repeat (first | rw [if_pos (by omega)] | rw [if_neg (by omega)]))
 refine ac ?_
 refine ac ?_
 refine ac ?_
 · refine int_eq ?_; unfold singleI; (repeat (rw [if_neg (by omega)]))
theorem w_Rmodulus {b : Int}  : Fun Tryz.prog 230 [int b] (int (rmodI b)) := by
 refine fo Tryz.func230 rfl ⟨rfl, rfl⟩ fun M0 w0 => ?_
 refine ac ?_
 refine ac ?_
 refine Ch.cs 6 rfl ?_ ?_ <;> intro h1 q1
 refine ac ?_
 refine ac ?_
 refine ac ?_
 · refine int_eq ?_; unfold rmodI; (repeat (rw [if_pos (by omega)]))
 refine ac ?_
 refine Tr.cn rfl ?_ ?_ <;> intro h2 q2
 refine ac ?_
 refine ac ?_
 · refine int_eq ?_; unfold rmodI; (repeat (rw [if_pos (by omega)]))
 refine ac ?_
 refine Tr.cn rfl ?_ ?_ <;> intro h3 q3
 refine ac ?_
 refine ac ?_
 · refine int_eq ?_; unfold rmodI; (repeat (first | rw [if_pos (by omega)] | rw [if_neg (by omega)]))
 refine ac ?_
 refine wk2 0 13 rfl ?_
 refine Tr.cn rfl ?_ ?_ <;> intro h4 q4
 refine ac ?_
 refine ac ?_
 · refine int_eq ?_; unfold rmodI; (repeat (first | rw [if_pos (by omega)] | rw [if_neg (by omega)]))
 refine ac ?_
 refine Tr.cn rfl ?_ ?_ <;> intro h5 q5
 refine ac ?_
 refine ac ?_
 · refine int_eq ?_; unfold rmodI; (repeat (first | rw [if_pos (by omega)] | rw [if_neg (by omega)]))
 refine ac ?_
 refine Tr.cn rfl ?_ ?_ <;> intro h6 q6
 refine ac ?_
 refine ac ?_
 · refine int_eq ?_; unfold rmodI; (repeat (first | rw [if_pos (by omega)] | rw [if_neg (by omega)]))
 refine ac ?_
 refine Tr.cn rfl ?_ ?_ <;> intro h7 q7
 refine ac ?_
 refine ac ?_
 · refine int_eq ?_; unfold rmodI; (repeat (first | rw [if_pos (by omega)] | rw [if_neg (by omega)]))
 refine ac ?_
 refine ac ?_
 refine ac ?_
 · refine int_eq ?_; unfold rmodI; (repeat (rw [if_neg (by omega)]))
end Go.Proofs.YtflodcidhlmaaaaGreat
namespace Go.Proofs.YtflodcidhlmaaaaGreat
open Go Go.RowKit Cp

theorem among_0 (b c : Int) : amongI b [0] [c] = if b = 0 then c else 0 := by
  unfold amongI idx
  by_cases h : b = 0
  · subst h; rfl
  · have : List.findIdx? (fun x => b == x) [0] = none := by simp [h]
    rw [this, if_neg h]; rfl
theorem strength_mod {alg b : Int} (h : alg = 5 ∨ alg = 6 ∨ alg = 10 ∨ alg = 11) : rmodI b = strength alg b := by
  rw [rmodI_eq]
  rcases h with rfl | rfl | rfl | rfl <;> rfl
theorem strength_rest {alg b : Int} (h : ¬ (alg = 5 ∨ alg = 6 ∨ alg = 7 ∨ alg = 9 ∨ alg = 10 ∨ alg = 11 ∨ alg = 12 ∨ alg = 13 ∨ alg = 14 ∨ alg = 15 ∨ alg = 16 ∨ alg = 17)) : amongI b [0] [singleI alg] = strength alg b := by
  rw [among_0]
  by_cases hin : 1 ≤ alg ∧ alg ≤ 22
  · have ha : alg = 1 ∨ alg = 2 ∨ alg = 3 ∨ alg = 4 ∨ alg = 8 ∨ alg = 18 ∨ alg = 19 ∨ alg = 20 ∨ alg = 21 ∨ alg = 22 := by omega
    rcases ha with rfl | rfl | rfl | rfl | rfl | rfl | rfl | rfl | rfl | rfl <;> rfl
  · have h1 : singleI alg = 0 := by unfold singleI; (repeat (first | rw [if_pos (by omega)] | rw [if_neg (by omega)]))
    unfold strength
    rw [h1, if_neg hin]; split <;> rfl
theorem strength_cur {alg b : Int} (h : alg = 7 ∨ alg = 12) : strength alg b = if (curvs.any fun x => b == x) = true then b.tdiv 2 else 0 := by
  rcases h with rfl | rfl <;> rfl

theorem w_RStrength {alg bits : Int}  : Fun Tryz.prog 187 [agg [int alg, int bits]] (int (strength alg bits)) := by
 refine fo Tryz.func187 rfl ⟨rfl, rfl⟩ fun M0 w0 => ?_
 iterate 4 refine ac ?_
 refine Tr.cn rfl ?_ ?_ <;> intro h1 q1
 refine ac ?_
 refine Tr.cond rfl (fun _ => ?_) (fun h => nomatch h1.symm.trans h)
 refine ac ?_
 refine co rfl (kc1 (w_Rmodulus) rfl rfl) ?_
 refine ac ?_
 refine ac ?_
 · refine int_eq ?_; exact strength_mod (by omega)
 refine ac ?_
 refine Tr.cn rfl ?_ ?_ <;> intro h2 q2
 refine ac ?_
 refine Tr.cond rfl (fun _ => ?_) (fun h => nomatch h2.symm.trans h)
 refine ac ?_
 refine co rfl (kc1 (w_Rmodulus) rfl rfl) ?_
 refine ac ?_
 refine wk1 2 rfl ?_
 refine ac ?_
 · refine int_eq ?_; exact strength_mod (by omega)
 refine ac ?_
 refine Tr.cn rfl ?_ ?_ <;> intro h3 q3
 refine ac ?_
 refine Tr.cond rfl (fun _ => ?_) (fun h => nomatch h3.symm.trans h)
 refine ac ?_
 refine co rfl (kc1 (w_Rmodulus) rfl rfl) ?_
 refine ac ?_
 refine wk1 2 rfl ?_
 refine ac ?_
 · refine int_eq ?_; exact strength_mod (by omega)
 refine ac ?_
 refine wk4 1 3 7 8 rfl ?_
 refine Tr.cn rfl ?_ ?_ <;> intro h4 q4
 refine ac ?_
 refine co rfl (kc1 (w_Rmodulus) rfl rfl) ?_
 refine ac ?_
 refine ac ?_
 · refine int_eq ?_; exact strength_mod (by omega)
 refine ac ?_
 refine Tr.cn rfl ?_ ?_ <;> intro h5 q5
 refine ac ?_
 refine Tr.cond rfl (fun _ => ?_) (fun h => nomatch h5.symm.trans h)
 refine ac ?_
 refine Ch.cs 20 rfl ?_ ?_ <;> intro h6 q6
 refine ac ?_
 refine wk2 3 35 rfl ?_
 refine ac ?_
 refine co rfl (ok_quo rfl (vl rfl) (vl rfl) (by omega)) ?_
 refine ac ?_
 refine ac ?_
 · refine int_eq ?_; rw [strength_cur (by omega)]; have hb : bits = 160 ∨ bits = 224 ∨ bits = 256 ∨ bits = 384 ∨ bits = 521 := (by omega); rcases hb with rfl | rfl | rfl | rfl | rfl <;> rfl
 refine ac ?_
 refine Ch.cs 24 rfl ?_ ?_ <;> intro h7 q7
 refine ac ?_
 refine wk2 3 35 rfl ?_
 refine ac ?_
 refine co rfl (ok_quo rfl (vl rfl) (vl rfl) (by omega)) ?_
 refine ac ?_
 refine ac ?_
 · refine int_eq ?_; rw [strength_cur (by omega)]; have hb : bits = 160 ∨ bits = 224 ∨ bits = 256 ∨ bits = 384 ∨ bits = 521 := (by omega); rcases hb with rfl | rfl | rfl | rfl | rfl <;> rfl
 refine ac ?_
 refine Ch.cs 28 rfl ?_ ?_ <;> intro h8 q8
 refine ac ?_
 refine wk2 3 35 rfl ?_
 refine ac ?_
 refine co rfl (ok_quo rfl (vl rfl) (vl rfl) (by omega)) ?_
 refine ac ?_
 refine ac ?_
 · refine int_eq ?_; rw [strength_cur (by omega)]; have hb : bits = 160 ∨ bits = 224 ∨ bits = 256 ∨ bits = 384 ∨ bits = 521 := (by omega); rcases hb with rfl | rfl | rfl | rfl | rfl <;> rfl
 refine ac ?_
 refine Ch.cs 32 rfl ?_ ?_ <;> intro h9 q9
 refine ac ?_
 refine wk2 3 35 rfl ?_
 refine ac ?_
 refine co rfl (ok_quo rfl (vl rfl) (vl rfl) (by omega)) ?_
 refine ac ?_
 refine ac ?_
 · refine int_eq ?_; rw [strength_cur (by omega)]; have hb : bits = 160 ∨ bits = 224 ∨ bits = 256 ∨ bits = 384 ∨ bits = 521 := (by omega); rcases hb with rfl | rfl | rfl | rfl | rfl <;> rfl
 refine ac ?_
 refine wk2 3 35 rfl ?_
 refine Tr.cn rfl ?_ ?_ <;> intro h10 q10
 refine ac ?_
 refine co rfl (ok_quo rfl (vl rfl) (vl rfl) (by omega)) ?_
 refine ac ?_
 refine ac ?_
 · refine int_eq ?_; rw [strength_cur (by omega)]; have hb : bits = 160 ∨ bits = 224 ∨ bits = 256 ∨ bits = 384 ∨ bits = 521 := (by omega); rcases hb with rfl | rfl | rfl | rfl | rfl <;> rfl
 refine ac ?_
 refine ac ?_
 refine ac ?_
 · refine int_eq ?_; rw [strength_cur (by omega), if_neg (by simp [curvs]; omega)]
 refine ac ?_
 refine Tr.cn rfl ?_ ?_ <;> intro h11 q11
 refine ac ?_
 refine Ch.cs 20 rfl ?_ ?_ <;> intro h12 q12
 refine ac ?_
 refine wk2 3 35 rfl ?_
 refine ac ?_
 refine co rfl (ok_quo rfl (vl rfl) (vl rfl) (by omega)) ?_
 refine ac ?_
 refine ac ?_
 · refine int_eq ?_; rw [strength_cur (by omega)]; have hb : bits = 160 ∨ bits = 224 ∨ bits = 256 ∨ bits = 384 ∨ bits = 521 := (by omega); rcases hb with rfl | rfl | rfl | rfl | rfl <;> rfl
 refine ac ?_
 refine Ch.cs 24 rfl ?_ ?_ <;> intro h13 q13
 refine ac ?_
 refine wk2 3 35 rfl ?_
 refine ac ?_
 refine co rfl (ok_quo rfl (vl rfl) (vl rfl) (by omega)) ?_
 refine ac ?_
 refine ac ?_
 · refine int_eq ?_; rw [strength_cur (by omega)]; have hb : bits = 160 ∨ bits = 224 ∨ bits = 256 ∨ bits = 384 ∨ bits = 521 := (by omega); rcases hb with rfl | rfl | rfl | rfl | rfl <;> rfl
 refine ac ?_
 refine Ch.cs 28 rfl ?_ ?_ <;> intro h14 q14
 refine ac ?_
 refine wk2 3 35 rfl ?_
 refine ac ?_
 refine co rfl (ok_quo rfl (vl rfl) (vl rfl) (by omega)) ?_
 refine ac ?_
 refine ac ?_
 · refine int_eq ?_; rw [strength_cur (by omega)]; have hb : bits = 160 ∨ bits = 224 ∨ bits = 256 ∨ bits = 384 ∨ bits = 521 := (by omega); rcases hb with rfl | rfl | rfl | rfl | rfl <;> rfl
 refine ac ?_
 refine Ch.cs 32 rfl ?_ ?_ <;> intro h15 q15
 refine ac ?_
 refine wk2 3 35 rfl ?_
 refine ac ?_
 refine co rfl (ok_quo rfl (vl rfl) (vl rfl) (by omega)) ?_
 refine ac ?_
 refine ac ?_
 · refine int_eq ?_; rw [strength_cur (by omega)]; have hb : bits = 160 ∨ bits = 224 ∨ bits = 256 ∨ bits = 384 ∨ bits = 521 := (by omega); rcases hb with rfl | rfl | rfl | rfl | rfl <;> rfl
 refine ac ?_
 refine wk2 3 35 rfl ?_
 refine Tr.cn rfl ?_ ?_ <;> intro h16 q16
 refine ac ?_
 refine co rfl (ok_quo rfl (vl rfl) (vl rfl) (by omega)) ?_
 refine ac ?_
 refine ac ?_
 · refine int_eq ?_; rw [strength_cur (by omega)]; have hb : bits = 160 ∨ bits = 224 ∨ bits = 256 ∨ bits = 384 ∨ bits = 521 := (by omega); rcases hb with rfl | rfl | rfl | rfl | rfl <;> rfl
 refine ac ?_
 refine ac ?_
 refine ac ?_
 · refine int_eq ?_; rw [strength_cur (by omega), if_neg (by simp [curvs]; omega)]
 refine ac ?_
 refine Tr.cn rfl ?_ ?_ <;> intro h17 q17
 refine ac ?_
 refine co rfl (ok_call rfl (w_among (l := [44, 65, 87]) (m := [128, 192, 256]) (by simp)) ⟨ke rfl, ⟨_, rfl, full_le _ _⟩, ⟨_, rfl, full_le _ _⟩, trivial⟩) ?_
 refine ac ?_
 refine wk1 2 rfl ?_
 refine ac ?_
 · refine int_eq ?_; have ha : alg = 9 := (by omega); rcases ha with rfl <;> rfl
 refine ac ?_
 refine Tr.cn rfl ?_ ?_ <;> intro h18 q18
 refine ac ?_
 refine co rfl (ok_call rfl (w_among (l := [512, 768, 1024]) (m := [128, 192, 256]) (by simp)) ⟨ke rfl, ⟨_, rfl, full_le _ _⟩, ⟨_, rfl, full_le _ _⟩, trivial⟩) ?_
 refine ac ?_
 refine wk1 2 rfl ?_
 refine ac ?_
 · refine int_eq ?_; have ha : alg = 13 := (by omega); rcases ha with rfl <;> rfl
 refine ac ?_
 refine wk4 1 3 7 50 rfl ?_
 refine Tr.cn rfl ?_ ?_ <;> intro h19 q19
 refine ac ?_
 refine co rfl (ok_call rfl (w_among (l := [40, 128]) (m := [40, 60]) (by simp)) ⟨ke rfl, ⟨_, rfl, full_le _ _⟩, ⟨_, rfl, full_le _ _⟩, trivial⟩) ?_
 refine ac ?_
 refine ac ?_
 · refine int_eq ?_; have ha : alg = 14 := (by omega); rcases ha with rfl <;> rfl
 refine ac ?_
 refine Tr.cn rfl ?_ ?_ <;> intro h20 q20
 refine ac ?_
 refine co rfl (ok_call rfl (w_among (l := [112, 168]) (m := [80, 112]) (by simp)) ⟨ke rfl, ⟨_, rfl, full_le _ _⟩, ⟨_, rfl, full_le _ _⟩, trivial⟩) ?_
 refine ac ?_
 refine ac ?_
 · refine int_eq ?_; have ha : alg = 15 := (by omega); rcases ha with rfl <;> rfl
 refine ac ?_
 refine Tr.cn rfl ?_ ?_ <;> intro h21 q21
 refine ac ?_
 refine Tr.cond rfl (fun _ => ?_) (fun h => nomatch h21.symm.trans h)
 refine ac ?_
 refine co rfl (ok_call rfl (w_among (l := [128, 256]) (m := [128, 256]) (by simp)) ⟨ke rfl, ⟨_, rfl, full_le _ _⟩, ⟨_, rfl, full_le _ _⟩, trivial⟩) ?_
 refine ac ?_
 refine ac ?_
 · refine int_eq ?_; have ha : alg = 16 ∨ alg = 17 := (by omega); rcases ha with rfl | rfl <;> rfl
 refine ac ?_
 refine Tr.cn rfl ?_ ?_ <;> intro h22 q22
 refine ac ?_
 refine co rfl (ok_call rfl (w_among (l := [128, 256]) (m := [128, 256]) (by simp)) ⟨ke rfl, ⟨_, rfl, full_le _ _⟩, ⟨_, rfl, full_le _ _⟩, trivial⟩) ?_
 refine ac ?_
 refine wk1 2 rfl ?_
 refine ac ?_
 · refine int_eq ?_; have ha : alg = 16 ∨ alg = 17 := (by omega); rcases ha with rfl | rfl <;> rfl
 refine ac ?_
 refine ac ?_
 refine co rfl (kc1 (w_single) rfl rfl) (co rfl (ok_buildSlice (xs := [.tmp 73]) (rows := [[_]]) rfl rfl Tryz.underlying22 sz3 z3 rfl (by decide) ⟨⟨(by exact rfl), (VL.le (vl rfl) (one_cellsP _))⟩, trivial⟩ (by decide)) ?_)
 refine co rfl (ok_call rfl (w_among (l := [0]) (m := [singleI alg]) (by simp)) ⟨ke rfl, ⟨_, rfl, full_le _ _⟩, ⟨_, rfl, full_le _ _⟩, trivial⟩) ?_
 refine ac ?_
 refine wk1 2 rfl ?_
 refine ac ?_
 · refine int_eq ?_; exact strength_rest (by omega)
theorem w_RValid {alg bits : Int}  : Fun Tryz.prog 155 [agg [int alg, int bits]] (bool (decide (strength alg bits > 0))) := by
 refine fo Tryz.func155 rfl ⟨rfl, rfl⟩ fun M0 w0 => ?_
 refine ac ?_
 refine ac ?_
 refine co rfl (kc1 (w_RStrength) rfl rfl) ?_
 refine ac ?_
 refine ac ?_
 · exact Pr.le_refl _
def rtab : List (List UInt8 × Int) := catTable.map fun r => (r.name, r.kind)
theorem rtab_at {alg : Int} (h : 1 ≤ alg ∧ alg ≤ 22) : rtab[alg.toNat]? = some ((catOf alg).name, (catOf alg).kind) := by
  unfold rtab; rw [List.getElem?_map, catTable_at h]; rfl

theorem w_Rrows   : Fun Tryz.prog 113 [] (slice 2 (rtab.map fun r => [str r.1, int r.2])) := by
 refine fo Tryz.func113 rfl ⟨rfl, rfl⟩ fun M0 w0 => ?_
 refine ac ?_
 refine ac ?_
 refine wk1 0 rfl ?_
 refine ac ?_
 · exact full_le _ _
theorem w_RKind {alg : Int}  : Fun Tryz.prog 69 [int alg] (int (catOf alg).kind) := by
 refine fo Tryz.func69 rfl ⟨rfl, rfl⟩ fun M0 w0 => ?_
 refine ac ?_
 refine ac ?_
 refine Ch.cs 5 rfl ?_ ?_ <;> intro h1 q1
 refine ac ?_
 refine ac ?_
 refine ac ?_
 · refine int_eq ?_; unfold catOf; rw [if_neg (by omega)]; rfl
 refine ac ?_
 refine Tr.cn rfl ?_ ?_ <;> intro h2 q2
 refine ac ?_
 refine ac ?_
 · refine int_eq ?_; unfold catOf; rw [if_neg (by omega)]; rfl
 have hin : 1 ≤ alg ∧ alg ≤ 22 := by omega
 refine ac ?_
 refine Tr.seq (Tr.reg0 (co rfl (kc0 (w_Rrows) rfl) (cm rfl (co rfl (ok_indexAddr rfl Tryz.underlying158 sz157 (vl rfl) (vl rfl) (by omega) (row_atI (f := fun r : List UInt8 × Int => [str r.1, int r.2]) (rtab_at hin))) ?_))))
 refine ac ?_
 refine ac ?_
 · exact Pr.le_refl _
theorem w_Signature {alg bits : Int}  : Fun Tryz.prog 111 [agg [int alg, int bits]] (bool (decide (strength alg bits > 0) && (catOf alg).kind == 2)) := by
 refine fo Tryz.func111 rfl ⟨rfl, rfl⟩ fun M0 w0 => ?_
 refine ac ?_
 refine ac ?_
 refine co rfl (kc1 (w_RValid) rfl rfl) (cm rfl ?_)
 refine Ch.cs 5 rfl ?_ ?_ <;> intro h1 q1
 refine ac ?_
 refine cy h1 rfl (kc1 (w_RKind) rfl rfl) ?_
 refine ac ?_
 refine ac ?_
 · refine bool_eq ?_; simp_all
 refine ac ?_
 refine ac ?_
 · refine bool_eq ?_; simp_all; omega
end Go.Proofs.YtflodcidhlmaaaaGreat
namespace Cp
open Go Go.RowKit
theorem ok_appN {P : Program} {E : Env} {I : Asn} {o : Oper} {t e : TypeId} {y : Operand} {sz bytes : Nat} {zs : List Value} {rows : List (List Pr)} (ho : o.op = .call { callee := .builtin .append, args := #[.const (.slice none 0 0), y], argTypes := #[t, t] })
    (ht : P.underlying t = some (.slice e)) (hz : sizeB P e = some sz) (hby : bytesB P e = some bytes) (hze : zeroB P e = some zs) (hzl : zs.length = sz) (hsz : 0 < sz) (hy : VL E y (slice sz rows)) (hmax : rows.length ≤ maxLen) (hfit : rows.length * bytes ≤ 140737488355328) : OpOK P I o E (slice sz rows) :=
  OpOK.val fun M w a he hI => by
    have h0 := (HpH.begin (I.bd _ _ hI)).add0 (r := noRes) rfl trivial
    obtain ⟨v', w', M', h1, h2, h3, h4⟩ := app_core (ty := o.type) (j := 0) (v := .slice none 0 0) (rows := []) ht hz hby hze hzl hsz h0 rfl (.inr ⟨rfl, rfl⟩) (nil_slice sz M w _ rfl) (hy.ev he (by simp [ho, Op.operands, Call.operands])) (by simpa using hmax) (by simpa using hfit)
    have h5 : a.eval (.const (.slice none 0 0)) = .slice none 0 0 := rfl
    exact ⟨v', w', by simp [execOp, ho, resolve, invoke, builtin, h1, h5], (slice sz rows).st _ _ _ _ _ (Ext.less h4.m) (by simpa using h2), h4.below⟩
end Cp
namespace Cp
open Go Go.RowKit
end Cp
namespace Go.Proofs.YtflodcidhlmaaaaGreat
open Go Go.RowKit Cp

/-- A certificate. -/
structure Crt where
  serial : Int
  issuer : List UInt8
  subject : List UInt8
  kalg : Int
  kbits : Int
  keyId : Int
  halg : Int
  hbits : Int
  from_ : Int
  to_ : Int
  auth : Bool
  path : Int
  names : List (List UInt8)
  skey : Int
  ssum : Int
abbrev txts (l : List (List UInt8)) : Pr := slice 1 (l.map fun t => [str t])
abbrev rowCr (c : Crt) : List Pr := [int c.serial, str c.issuer, str c.subject, int c.kalg, int c.kbits, int c.keyId, int c.halg, int c.hbits, int c.from_, int c.to_, bool c.auth, int c.path, txts c.names, int c.skey, int c.ssum]
abbrev certs (l : List Crt) : Pr := slice 15 (l.map rowCr)
structure Crt.fits (c : Crt) : Prop where
  issuer : c.issuer.length ≤ maxLen
  subject : c.subject.length ≤ maxLen
  names : ∀ s ∈ c.names, s.length ≤ maxLen
def keyB (n : Int) : Bool := decide (0 ≤ n) && decide (n ≤ 2147483648)
def sumB (n : Int) : Bool := decide (0 ≤ n) && decide (n < 4294967296)
def letterB (o : List UInt8) (c : UInt8) : Bool := decide (97 ≤ c.toNat ∧ c.toNat ≤ 122) || decide (65 ≤ c.toNat ∧ c.toNat ≤ 90) || decide (48 ≤ c.toNat ∧ c.toNat ≤ 57) || decide (0 ≤ Lib.indexByte o c)
def wordB (s : List UInt8) : Bool := s.all (letterB [45, 95, 46]) && decide (1 ≤ s.length ∧ s.length ≤ 32)
def nameAt (l : List (List UInt8)) (i : Nat) : Bool := named (l[i]?.getD []) && (decide (i = 0) || decide (Lib.compareBytes (l[i - 1]?.getD []) (l[i]?.getD []) = -1))
def namesB (l : List (List UInt8)) : Bool := allI (nameAt l) l.length && decide (l.length ≤ 8)
def ofB (alg bits kind : Int) : Bool := decide (strength alg bits > 0) && (catOf alg).kind == kind
def validB (c : Crt) : Bool :=
  (decide (0 ≤ c.serial) && decide (c.serial ≤ 1099511627776) && named c.issuer && named c.subject && namesB c.names) &&
  (ofB c.kalg c.kbits 2 && keyB c.keyId && ofB c.halg c.hbits 1 && keyB c.skey && sumB c.ssum) &&
  (decide (0 ≤ c.from_) && decide (c.from_ ≤ c.to_) && decide (c.to_ ≤ 40000)) && (decide (0 ≤ c.path) && decide (c.path ≤ 8) && (c.auth || c.path == 0))
def showsB (alg bits id : Int) (l : List Crt) : Bool := ofB alg bits 2 && keyB id && decide (l.length ≤ 8) && l.all validB && match l with | [] => true | c :: _ => decide (c.kalg = alg ∧ c.kbits = bits) && c.keyId == id
/-- What an endpoint shows. -/
structure Idn where
  alg : Int
  bits : Int
  keyId : Int
  chain : List Crt
abbrev rowId (x : Idn) : List Pr := [int x.alg, int x.bits, int x.keyId, certs x.chain]
abbrev idns (l : List Idn) : Pr := slice 4 (l.map rowId)
def Idn.fits (x : Idn) : Prop := ∀ c ∈ x.chain, c.fits
/-- An endpoint. -/
structure Ept where
  name : List UInt8
  least : Int
  most : Int
  suites : List Int
  own : Bool
  ids : List Idn
  anchors : List Int
  hashes : List Int
  fall : Bool
abbrev rowEp (e : Ept) : List Pr := [str e.name, int e.least, int e.most, ints e.suites, bool e.own, idns e.ids, ints e.anchors, ints e.hashes, bool e.fall]
structure Ept.fits (e : Ept) : Prop where
  name : e.name.length ≤ maxLen
  ids : ∀ x ∈ e.ids, x.fits
def ascAt (l : List Int) (i : Nat) : Bool := decide (i = 0) || decide (l[i - 1]?.getD 0 < l[i]?.getD 0)
def ascB (l : List Int) : Bool := allI (ascAt l) l.length
def suiteAt (l : List Int) (i : Nat) : Bool := decide (1 ≤ l[i]?.getD 0 ∧ l[i]?.getD 0 ≤ 16) && !((l.take i).any fun x => l[i]?.getD 0 == x)
def suitesB (l : List Int) : Bool := allI (suiteAt l) l.length
def hashB (n : Int) : Bool := (catOf n).kind == 1
def idB (x : Idn) : Bool := showsB x.alg x.bits x.keyId x.chain
def eptB (e : Ept) : Bool :=
  (wordB e.name && decide (1 ≤ e.least) && decide (e.least ≤ e.most) && decide (e.most ≤ 4) && suitesB e.suites) &&
  (decide (e.ids.length ≤ 4) && decide (e.anchors.length ≤ 16) && ascB e.anchors && ascB e.hashes) && e.ids.all idB && e.anchors.all keyB && e.hashes.all hashB
theorem any_not {β : Type} (p : β → Bool) (l : List β) : (l.any fun x => !p x) = !l.all p := by
  induction l with
  | nil => rfl
  | cons a l ih => rw [List.any_cons, List.all_cons, ih]; cases p a <;> rfl
theorem getD_at {β : Type} {l : List β} {k : Nat} {x d : β} (h : l[k]? = some x) : l[k]?.getD d = x := by rw [h]; rfl

theorem w_slIB {s : List UInt8} {c : UInt8}  : Fun Tryz.prog 218 [str s, is (.int .u8 ((c.toNat : Nat) : Int))] (int (Lib.indexByte s c)) := by
 refine fo Tryz.func218 rfl ⟨rfl, rfl⟩ fun M0 w0 => ?_
 refine ac ?_
 refine ac ?_
 refine co rfl (ok_idxbyte rfl Tryz.func250 (by kernel_rfl) (by kernel_rfl) (by kernel_rfl) (by kernel_rfl) (vl rfl) (vl rfl)) ?_
 refine ac ?_
 refine ac ?_
 · exact Pr.le_refl _
theorem w_sIB {s : List UInt8} {c : UInt8}  : Fun Tryz.prog 167 [str s, is (.int .u8 ((c.toNat : Nat) : Int))] (int (Lib.indexByte s c)) := by
 refine fo Tryz.func167 rfl ⟨rfl, rfl⟩ fun M0 w0 => ?_
 refine ac ?_
 refine ac ?_
 refine co rfl (kc2 (w_slIB) rfl rfl rfl) ?_
 refine ac ?_
 refine ac ?_
 · exact Pr.le_refl _
theorem w_Letter {o : List UInt8} {c : UInt8}  : Fun Tryz.prog 129 [is (.int .u8 ((c.toNat : Nat) : Int)), str o] (bool (letterB o c)) := by
 refine fo Tryz.func129 rfl ⟨rfl, rfl⟩ fun M0 w0 => ?_
 refine ac ?_
 refine ac ?_
 refine Ch.cs 7 rfl ?_ ?_ <;> intro h1 q1
 refine ac ?_
 refine Ch.cs 11 rfl ?_ ?_ <;> intro h2 q2
 refine ac ?_
 refine wk1 4 rfl ?_
 refine ac ?_
 · refine bool_eq ?_; unfold letterB; simp_all; omega
 refine ac ?_
 refine Ch.cs 14 rfl ?_ ?_ <;> intro h3 q3
 refine ac ?_
 refine Ch.cs 19 rfl ?_ ?_ <;> intro h4 q4
 refine ac ?_
 refine wk1 4 rfl ?_
 refine ac ?_
 · refine bool_eq ?_; unfold letterB; simp_all; omega
 refine ac ?_
 refine Ch.cs 22 rfl ?_ ?_ <;> intro h5 q5
 refine ac ?_
 refine Ch.cs 27 rfl ?_ ?_ <;> intro h6 q6
 refine ac ?_
 refine wk1 4 rfl ?_
 refine ac ?_
 · refine bool_eq ?_; unfold letterB; simp_all; omega
 refine ac ?_
 refine cy h6 rfl (kc2 (w_sIB) rfl rfl rfl) ?_
 refine ac ?_
 refine wk1 4 rfl ?_
 refine ac ?_
 · refine bool_eq ?_; unfold letterB; simp_all; omega
 refine ac ?_
 refine cy rfl rfl (kc2 (w_sIB) rfl rfl rfl) ?_
 refine ac ?_
 refine wk1 4 rfl ?_
 refine ac ?_
 · refine bool_eq ?_; unfold letterB; simp_all; omega
 refine ac ?_
 refine Ch.cs 22 rfl ?_ ?_ <;> intro h7 q7
 refine ac ?_
 refine Ch.cs 27 rfl ?_ ?_ <;> intro h8 q8
 refine ac ?_
 refine wk1 4 rfl ?_
 refine ac ?_
 · refine bool_eq ?_; unfold letterB; simp_all; omega
 refine ac ?_
 refine cy h8 rfl (kc2 (w_sIB) rfl rfl rfl) ?_
 refine ac ?_
 refine wk1 4 rfl ?_
 refine ac ?_
 · refine bool_eq ?_; unfold letterB; simp_all; omega
 refine ac ?_
 refine cy rfl rfl (kc2 (w_sIB) rfl rfl rfl) ?_
 refine ac ?_
 refine wk1 4 rfl ?_
 refine ac ?_
 · refine bool_eq ?_; unfold letterB; simp_all; omega
 refine ac ?_
 refine Ch.cs 14 rfl ?_ ?_ <;> intro h9 q9
 refine ac ?_
 refine Ch.cs 19 rfl ?_ ?_ <;> intro h10 q10
 refine ac ?_
 refine wk1 4 rfl ?_
 refine ac ?_
 · refine bool_eq ?_; unfold letterB; simp_all; omega
 refine ac ?_
 refine Ch.cs 22 rfl ?_ ?_ <;> intro h11 q11
 refine ac ?_
 refine Ch.cs 27 rfl ?_ ?_ <;> intro h12 q12
 refine ac ?_
 refine wk1 4 rfl ?_
 refine ac ?_
 · refine bool_eq ?_; unfold letterB; simp_all; omega
 refine ac ?_
 refine cy h12 rfl (kc2 (w_sIB) rfl rfl rfl) ?_
 refine ac ?_
 refine wk1 4 rfl ?_
 refine ac ?_
 · refine bool_eq ?_; unfold letterB; simp_all; omega
 refine ac ?_
 refine cy rfl rfl (kc2 (w_sIB) rfl rfl rfl) ?_
 refine ac ?_
 refine wk1 4 rfl ?_
 refine ac ?_
 · refine bool_eq ?_; unfold letterB; simp_all; omega
 refine ac ?_
 refine Ch.cs 22 rfl ?_ ?_ <;> intro h13 q13
 refine ac ?_
 refine Ch.cs 27 rfl ?_ ?_ <;> intro h14 q14
 refine ac ?_
 refine wk1 4 rfl ?_
 refine ac ?_
 · refine bool_eq ?_; unfold letterB; simp_all; omega
 refine ac ?_
 refine cy h14 rfl (kc2 (w_sIB) rfl rfl rfl) ?_
 refine ac ?_
 refine wk1 4 rfl ?_
 refine ac ?_
 · refine bool_eq ?_; unfold letterB; simp_all; omega
 refine ac ?_
 refine cy rfl rfl (kc2 (w_sIB) rfl rfl rfl) ?_
 refine ac ?_
 refine wk1 4 rfl ?_
 refine ac ?_
 · refine bool_eq ?_; unfold letterB; simp_all; omega
theorem w_Word {s : List UInt8} (hs : s.length ≤ maxLen) : Fun Tryz.prog 87 [str s] (bool (wordB s)) := by
 refine fo Tryz.func87 rfl ⟨rfl, rfl⟩ fun M0 w0 => ?_
 refine ac ?_
 refine ac ?_
 refine co rfl (ok_bytes rfl Tryz.underlying9 Tryz.underlying176 Tryz.underlying5 (vl rfl) (by assumption)) ?_
 refine ac ?_
 refine Tr.block (Tr.lenm 6 rfl fun hl6 => (Tr.loopw [(0, _), (6, _), (7, _)] (kk3 rfl) (fun k : Nat => [(8, int ((k : Nat) : Int))]) (fun k : Nat => k ≤ (s).length ∧ (∀ j y, j < k → s[j]? = some y → (!letterB [45, 95, 46] y) = false)) (fun k : Nat => (s).length - k) 0 (⟨Nat.zero_le _, fun j y hj => absurd hj (by omega)⟩) ⟨ke rfl, trivial⟩ ?_))
 rintro k ⟨hle_k, hinv_k⟩
 refine ac ?_
 refine Tr.seq ?_
 refine Tr.cn rfl ?_ ?_ <;> intro h1 q1
 have hk_k : k < (s).length := lt_of_dec h1
 obtain ⟨c, hx_k⟩ := at_ hk_k
 refine ac ?_
 refine Tr.seq (Tr.block (Tr.seq (Tr.reg0 (co rfl (ok_indexAddr rfl Tryz.underlying176 sz5 (vl rfl) (vl rfl) (by omega) (by exact row_at (by assumption))) ?_))))
 refine ac ?_
 refine ac ?_
 refine co rfl (kc2 (w_Letter) rfl rfl rfl) ?_
 refine ac ?_
 refine Tr.cn rfl ?_ ?_ <;> intro h2 q2
 refine ac ?_
 refine ac ?_
 · refine bool_eq ?_; unfold wordB; rw [all_hit (p := letterB [45, 95, 46]) hx_k (by simp_all)]; rfl
 refine ac ?_
 refine ac ?_
 exact Fin.fam_same (k + 1) ⟨⟨hk_k, step_no (p := fun c => !letterB [45, 95, 46] c) hx_k (by simp_all) hinv_k⟩, by omega⟩ ⟨⟨_, rfl, int_succ k⟩, ke rfl, ke rfl, ke rfl, trivial⟩
 have he_k : k = (s).length := by have := ge_of_dec h1; omega
 subst he_k
 refine ac ?_
 refine ac ?_
 refine Ch.cs 19 rfl ?_ ?_ <;> intro h3 q3
 refine ac ?_
 refine wk1 2 rfl ?_
 refine ac ?_
 · refine bool_eq ?_; unfold wordB; rw [all_end hinv_k, Bool.true_and]; rw [decide_eq_decide]; omega
 refine ac ?_
 refine wk1 2 rfl ?_
 refine ac ?_
 · refine bool_eq ?_; unfold wordB; rw [all_end hinv_k, Bool.true_and]; symm; rw [decide_eq_false_iff_not]; omega
theorem w_CKey {n : Int}  : Fun Tryz.prog 94 [int n] (bool (keyB n)) := by
 refine fo Tryz.func94 rfl ⟨rfl, rfl⟩ fun M0 w0 => ?_
 refine ac ?_
 refine ac ?_
 refine Ch.cs 5 rfl ?_ ?_ <;> intro h1 q1
 refine ac ?_
 refine ac ?_
 · refine bool_eq ?_; unfold keyB; simp_all
 refine ac ?_
 refine ac ?_
 · refine bool_eq ?_; unfold keyB; simp_all; omega
theorem e_CKey : Entry Tryz.prog 94 := ⟨_, Tryz.func94, rfl, rfl⟩
theorem w_Csum {n : Int}  : Fun Tryz.prog 224 [int n] (bool (sumB n)) := by
 refine fo Tryz.func224 rfl ⟨rfl, rfl⟩ fun M0 w0 => ?_
 refine ac ?_
 refine ac ?_
 refine Ch.cs 5 rfl ?_ ?_ <;> intro h1 q1
 refine ac ?_
 refine ac ?_
 · refine bool_eq ?_; unfold sumB; simp_all
 refine ac ?_
 refine ac ?_
 · refine bool_eq ?_; unfold sumB; simp_all; omega
theorem w_Cof {alg bits kind : Int}  : Fun Tryz.prog 223 [agg [int alg, int bits], int kind] (bool (ofB alg bits kind)) := by
 refine fo Tryz.func223 rfl ⟨rfl, rfl⟩ fun M0 w0 => ?_
 refine ac ?_
 refine ac ?_
 refine co rfl (kc1 (w_Valid) rfl rfl) (cm rfl ?_)
 refine Ch.cs 7 rfl ?_ ?_ <;> intro h1 q1
 refine ac ?_
 refine cy h1 rfl (kc1 (w_Kind) rfl rfl) ?_
 refine ac ?_
 refine ac ?_
 · refine bool_eq ?_; unfold ofB; simp_all
 refine ac ?_
 refine ac ?_
 · refine bool_eq ?_; unfold ofB; simp_all; omega
theorem w_Cnamed {l : List (List UInt8)} (hf : ∀ s ∈ l, s.length ≤ maxLen) : Fun Tryz.prog 222 [txts l] (bool (namesB l)) := by
 refine fo Tryz.func222 rfl ⟨rfl, rfl⟩ fun M0 w0 => (Tr.lenm 0 rfl fun hlm_0 => ?_)
 refine ac ?_
 refine ac ?_
 refine Tr.block (Tr.loopw [(0, _), (5, _), (6, _)] (kk3 rfl) (fun k : Nat => [(7, int ((k : Nat) : Int))]) (fun k : Nat => k ≤ (l).length ∧ (∀ j, j < k → nameAt l j = true)) (fun k : Nat => (l).length - k) 0 (⟨Nat.zero_le _, fun j hj => absurd hj (by omega)⟩) ⟨ke rfl, trivial⟩ ?_)
 rintro k ⟨hle_k, hinv_k⟩
 refine ac ?_
 refine Tr.seq ?_
 refine Tr.cn rfl ?_ ?_ <;> intro h1 q1
 have hk_k : k < (l).length := lt_of_dec h1
 obtain ⟨s, hx_k⟩ := at_ hk_k
 have hsf := hf s (List.mem_of_getElem? hx_k)
 have hg := getD_at (d := []) hx_k
 refine ac ?_
 refine ac ?_
 refine co rfl (ok_indexAddr rfl Tryz.underlying83 sz9 (vl rfl) (vl rfl) (by omega) (row_at hx_k)) ?_
 refine ac ?_
 refine ac ?_
 refine co rfl (kc1 (w_Named hsf) rfl rfl) ?_
 refine ac ?_
 refine Ch.cs 15 rfl ?_ ?_ <;> intro h2 q2
 refine ac ?_
 refine wk5 0 5 6 7 27 rfl ?_
 refine ac ?_
 refine ac ?_
 · refine bool_eq ?_; unfold namesB; rw [allI_hit (p := nameAt l) (k := k) (by omega) (by unfold nameAt; rw [hg]; simp_all)]; rfl
 refine ac ?_
 refine Ch.cs 18 rfl ?_ ?_ <;> intro h3 q3
 have hk0 : 0 < k := by simpa using h3
 obtain ⟨y, hy⟩ := at_ (l := l) (k := k - 1) (by omega)
 have hgy := getD_at (d := []) hy
 refine ac ?_
 refine cy h3 rfl (ok_indexAddr rfl Tryz.underlying83 sz9 (vl rfl) (vl rfl) (by omega) (by rw [show ((k : Nat) : Int) - 1 = ((k - 1 : Nat) : Int) by omega]; exact row_at hy)) ?_
 refine ac ?_
 refine cy h3 rfl (ok_ges rfl (vl rfl) (vl rfl)) ?_
 refine ac ?_
 refine wk5 0 5 6 7 27 rfl ?_
 refine Tr.cn rfl ?_ ?_ <;> intro h4 q4
 refine ac ?_
 refine ac ?_
 · refine bool_eq ?_; unfold namesB; rw [allI_hit (p := nameAt l) (k := k) (by omega) (by unfold nameAt; rw [hg, hgy]; simp_all; omega)]; rfl
 refine ac ?_
 refine ac ?_
 exact Fin.fam_same (k + 1) ⟨⟨hk_k, allI_step hinv_k (by unfold nameAt; rw [hg, hgy]; simp_all)⟩, by omega⟩ ⟨⟨_, rfl, int_succ k⟩, ke rfl, ke rfl, ke rfl, trivial⟩
 refine ac ?_
 refine wk5 0 5 6 7 27 rfl ?_
 refine ac ?_
 refine ac ?_
 exact Fin.fam_same (k + 1) ⟨⟨hk_k, allI_step hinv_k (by unfold nameAt; rw [hg]; simp_all)⟩, by omega⟩ ⟨⟨_, rfl, int_succ k⟩, ke rfl, ke rfl, ke rfl, trivial⟩
 have he_k : k = (l).length := by have := ge_of_dec h1; omega
 subst he_k
 refine ac ?_
 refine ac ?_
 refine ac ?_
 · refine bool_eq ?_; unfold namesB; rw [allI_end hinv_k, Bool.true_and]; simp; omega
theorem w_Cvalid {c : Crt} (hc : c.fits) : Fun Tryz.prog 172 [agg (rowCr c)] (bool (validB c)) := by
 refine fo Tryz.func172 rfl ⟨rfl, rfl⟩ fun M0 w0 => ?_
 refine ac ?_
 refine ac ?_
 refine Ch.cs 6 rfl ?_ ?_ <;> intro h1 q1
 refine ac ?_
 refine wk2 1 28 rfl ?_
 refine ac ?_
 refine ac ?_
 · refine bool_eq ?_; unfold validB; simp_all; omega
 refine ac ?_
 refine Ch.cs 11 rfl ?_ ?_ <;> intro h2 q2
 refine ac ?_
 refine wk2 1 28 rfl ?_
 refine ac ?_
 refine ac ?_
 · refine bool_eq ?_; unfold validB; simp_all; omega
 refine ac ?_
 refine cy h2 rfl (kc1 (w_Named hc.issuer) rfl rfl) ?_
 refine ac ?_
 refine Ch.cs 17 rfl ?_ ?_ <;> intro h3 q3
 refine ac ?_
 refine wk2 1 28 rfl ?_
 refine ac ?_
 refine ac ?_
 · refine bool_eq ?_; unfold validB; simp_all
 refine ac ?_
 refine cy h3 rfl (kc1 (w_Named hc.subject) rfl rfl) ?_
 refine ac ?_
 refine Ch.cs 23 rfl ?_ ?_ <;> intro h4 q4
 refine ac ?_
 refine wk2 1 28 rfl ?_
 refine ac ?_
 refine ac ?_
 · refine bool_eq ?_; unfold validB; simp_all
 refine ac ?_
 refine cy h4 rfl (kc1 (w_Cnamed hc.names) rfl rfl) ?_
 refine ac ?_
 refine wk2 1 28 rfl ?_
 refine Tr.cn rfl ?_ ?_ <;> intro h5 q5
 refine ac ?_
 refine ac ?_
 · refine bool_eq ?_; unfold validB; simp_all
 refine ac ?_
 refine ac ?_
 refine co rfl (kc2 (w_Cof) rfl rfl rfl) ?_
 refine ac ?_
 refine Ch.cs 33 rfl ?_ ?_ <;> intro h6 q6
 refine ac ?_
 refine wk2 1 58 rfl ?_
 refine ac ?_
 refine ac ?_
 · refine bool_eq ?_; unfold validB; simp_all
 refine ac ?_
 refine cy h6 rfl (kc1 (w_CKey) rfl rfl) ?_
 refine ac ?_
 refine Ch.cs 39 rfl ?_ ?_ <;> intro h7 q7
 refine ac ?_
 refine wk2 1 58 rfl ?_
 refine ac ?_
 refine ac ?_
 · refine bool_eq ?_; unfold validB; simp_all
 refine ac ?_
 refine cy h7 rfl (kc2 (w_Cof) rfl rfl rfl) ?_
 refine ac ?_
 refine Ch.cs 45 rfl ?_ ?_ <;> intro h8 q8
 refine ac ?_
 refine wk2 1 58 rfl ?_
 refine ac ?_
 refine ac ?_
 · refine bool_eq ?_; unfold validB; simp_all
 refine ac ?_
 refine cy h8 rfl (kc1 (w_CKey) rfl rfl) ?_
 refine ac ?_
 refine Ch.cs 52 rfl ?_ ?_ <;> intro h9 q9
 refine ac ?_
 refine wk2 1 58 rfl ?_
 refine ac ?_
 refine ac ?_
 · refine bool_eq ?_; unfold validB; simp_all
 refine ac ?_
 refine cy h9 rfl (kc1 (w_Csum) rfl rfl) ?_
 refine ac ?_
 refine wk2 1 58 rfl ?_
 refine Tr.cn rfl ?_ ?_ <;> intro h10 q10
 refine ac ?_
 refine ac ?_
 · refine bool_eq ?_; unfold validB; simp_all
 refine ac ?_
 refine ac ?_
 refine Ch.cs 62 rfl ?_ ?_ <;> intro h11 q11
 refine ac ?_
 refine wk2 1 73 rfl ?_
 refine ac ?_
 refine ac ?_
 · refine bool_eq ?_; unfold validB; simp_all; omega
 refine ac ?_
 refine Ch.cs 69 rfl ?_ ?_ <;> intro h12 q12
 refine ac ?_
 refine wk2 1 73 rfl ?_
 refine ac ?_
 refine ac ?_
 · refine bool_eq ?_; unfold validB; simp_all; omega
 refine ac ?_
 refine wk2 1 73 rfl ?_
 refine Tr.cn rfl ?_ ?_ <;> intro h13 q13
 refine ac ?_
 refine ac ?_
 · refine bool_eq ?_; unfold validB; simp_all; omega
 refine ac ?_
 refine ac ?_
 refine Ch.cs 77 rfl ?_ ?_ <;> intro h14 q14
 refine ac ?_
 refine Ch.cs 82 rfl ?_ ?_ <;> intro h15 q15
 refine ac ?_
 refine Ch.cs 85 rfl ?_ ?_ <;> intro h16 q16
 refine ac ?_
 refine wk1 2 rfl ?_
 refine ac ?_
 · refine bool_eq ?_; unfold validB; simp_all
 refine ac ?_
 refine wk1 2 rfl ?_
 refine ac ?_
 · refine bool_eq ?_; unfold validB; simp_all
 refine ac ?_
 refine wk1 2 rfl ?_
 refine ac ?_
 · refine bool_eq ?_; unfold validB; simp_all; omega
 refine ac ?_
 refine wk1 2 rfl ?_
 refine ac ?_
 · refine bool_eq ?_; unfold validB; simp_all; omega
theorem w_CCheck {c : Crt} (hc : c.fits) : Fun Tryz.prog 134 [agg (rowCr c)] (int (if validB c then 0 else 9)) := by
 refine fo Tryz.func134 rfl ⟨rfl, rfl⟩ fun M0 w0 => ?_
 refine ac ?_
 refine ac ?_
 refine co rfl (kc1 (w_Cvalid (by assumption)) rfl rfl) ?_
 refine ac ?_
 refine Tr.cn rfl ?_ ?_ <;> intro h1 q1
 refine ac ?_
 refine ac ?_
 · refine int_eq ?_; simp_all
 refine ac ?_
 refine ac ?_
 refine ac ?_
 · refine int_eq ?_; simp_all
end Go.Proofs.YtflodcidhlmaaaaGreat
namespace Go.Proofs.YtflodcidhlmaaaaGreat
open Go Go.RowKit Cp

abbrev anyRow : List Pr := [any, any, any, any, any, any, any, any, any, any, any, any]
abbrev anyRows : List (List Pr) := [anyRow, anyRow, anyRow, anyRow, anyRow, anyRow, anyRow, anyRow, anyRow, anyRow, anyRow, anyRow, anyRow, anyRow, anyRow, anyRow]
theorem any_at {q : List Pr} {k o : Nat} (hk : k < 16) (ho : o = k * 12) : (anyRows.flatten ++ q)[o]? = some any := by
  subst ho
  have h : anyRows[k]? = some anyRow := by
    have hk' : k < anyRows.length := hk
    rw [List.getElem?_eq_getElem hk']
    have : ∀ r ∈ anyRows, r = anyRow := by intro r hr; simp at hr; exact hr
    rw [this _ (List.getElem_mem hk')]
  have hl : ∀ r ∈ anyRows, r.length = 12 := by intro r hr; simp at hr; rw [hr]; rfl
  rw [List.getElem?_append_left (by rw [flat_len hl]; show k * 12 < 16 * 12; omega)]
  exact flat_at (j := 0) hl h (by omega)
theorem any_rows {k : Nat} (hk : k < 16) : anyRows[k]? = some anyRow := by
  have hk' : k < anyRows.length := hk
  rw [List.getElem?_eq_getElem hk']
  have : ∀ r ∈ anyRows, r = anyRow := by intro r hr; simp at hr; exact hr
  rw [this _ (List.getElem_mem hk')]
theorem any_len : ∀ r ∈ anyRows, r.length = 12 := by intro r hr; simp at hr; rw [hr]; rfl
theorem anyRow_at {i : Nat} {p : Pr} (h : anyRow[i]? = some p) : p = any := by have := List.mem_of_getElem? h; simp at this; exact this
theorem agg_any {ps : List Pr} (h : ps.length = 12) : Pr.le (agg ps) (agg anyRow) := fun M w v ⟨cs, h1, h2, h3⟩ => ⟨cs, h1, h2, HL.of_at (by rw [h3.length, h]; rfl) fun i p v hp _ => by rw [anyRow_at hp]; trivial⟩
def headB (alg bits id : Int) (l : List Crt) : Bool := match l with | [] => true | c :: _ => decide (c.kalg = alg ∧ c.kbits = bits) && c.keyId == id
theorem headB_nil {alg bits id : Int} {l : List Crt} (h : l.length = 0) : headB alg bits id l = true := by rw [List.eq_nil_of_length_eq_zero h]; rfl
theorem headB_at {alg bits id : Int} {l : List Crt} {c : Crt} (h : l[0]? = some c) : headB alg bits id l = (decide (c.kalg = alg ∧ c.kbits = bits) && c.keyId == id) := by
  cases l with
  | nil => simp at h
  | cons a l => simp at h; subst h; rfl
theorem showsB_eq (alg bits id : Int) (l : List Crt) : showsB alg bits id l = (ofB alg bits 2 && keyB id && decide (l.length ≤ 8) && l.all validB && headB alg bits id l) := rfl

theorem w_use {a b : Int}  : Fun Tryz.prog 219 [int a, int b] (agg [int a, int b]) := by
 refine fo Tryz.func219 rfl ⟨rfl, rfl⟩ fun M0 w0 => (Tr.seq (Tr.regT ?_))
 refine TO.alloc rfl rfl (by decide) rfl z44 zo44 (fun b1 => ?_)
 refine ap ?_
 refine ap ?_
 refine Tr.ret (Fin.retX1 rfl (RVal.cell 0 rfl rfl agg44 sz44 rfl (Pr.le_refl _)) ?_)
 · exact Pr.le_refl _
theorem w_Suites   : Fun Tryz.prog 168 [] (slice 12 anyRows) := by
 refine fo Tryz.func168 rfl ⟨rfl, rfl⟩ fun M0 w0 => ?_
 refine ac ?_
 refine Tr.seq (Tr.regT ?_)
 iterate 4 refine tp rfl (kc2 (w_use) rfl rfl rfl) ?_
 refine tp rfl (ok_build (rows := []) rfl bl44 zo44 trivial rfl) ?_
 refine TO.alloc rfl rfl (by decide) rfl z44 zo44 (fun b1 => ?_)
 refine TO.alloc rfl rfl (by decide) rfl z44 zo44 (fun b2 => ?_)
 refine TO.alloc rfl rfl (by decide) rfl z44 zo44 (fun b3 => ?_)
 refine TO.alloc rfl rfl (by decide) rfl z44 zo44 (fun b4 => ?_)
 refine TO.alloc rfl rfl (by decide) rfl z44 zo44 (fun b5 => ?_)
 refine sf 4 1 ⟨rfl, rfl, rfl⟩ rfl rfl rfl rfl ?_
 refine sf 3 2 ⟨rfl, rfl, rfl⟩ rfl rfl rfl rfl ?_
 refine sf 2 3 ⟨rfl, rfl, rfl⟩ rfl rfl rfl rfl ?_
 refine sf 1 4 ⟨rfl, rfl, rfl⟩ rfl rfl rfl rfl ?_
 refine sf 0 5 ⟨rfl, rfl, rfl⟩ rfl rfl rfl rfl ?_
 refine TO.nil (Fin.go (wk5 1 2 3 4 5 rfl (Tr.seq (Tr.regT ?_))))
 iterate 5 refine tp rfl (kc2 (w_use) rfl rfl rfl) ?_
 refine TO.alloc rfl rfl (by decide) rfl z44 zo44 (fun b6 => ?_)
 refine TO.alloc rfl rfl (by decide) rfl z44 zo44 (fun b7 => ?_)
 refine TO.alloc rfl rfl (by decide) rfl z44 zo44 (fun b8 => ?_)
 refine TO.alloc rfl rfl (by decide) rfl z44 zo44 (fun b9 => ?_)
 refine TO.alloc rfl rfl (by decide) rfl z44 zo44 (fun b10 => ?_)
 refine sf 4 6 ⟨rfl, rfl, rfl⟩ rfl rfl rfl rfl ?_
 refine sf 3 7 ⟨rfl, rfl, rfl⟩ rfl rfl rfl rfl ?_
 refine sf 2 8 ⟨rfl, rfl, rfl⟩ rfl rfl rfl rfl ?_
 refine sf 1 9 ⟨rfl, rfl, rfl⟩ rfl rfl rfl rfl ?_
 refine sf 0 10 ⟨rfl, rfl, rfl⟩ rfl rfl rfl rfl ?_
 refine TO.nil (Fin.go (wk10 1 2 3 4 5 6 7 8 9 10 rfl (Tr.seq (Tr.regT ?_))))
 iterate 4 refine tp rfl (kc2 (w_use) rfl rfl rfl) ?_
 refine TO.alloc rfl rfl (by decide) rfl z44 zo44 (fun b11 => ?_)
 refine TO.alloc rfl rfl (by decide) rfl z44 zo44 (fun b12 => ?_)
 refine TO.alloc rfl rfl (by decide) rfl z44 zo44 (fun b13 => ?_)
 refine TO.alloc rfl rfl (by decide) rfl z44 zo44 (fun b14 => ?_)
 refine sf 3 11 ⟨rfl, rfl, rfl⟩ rfl rfl rfl rfl ?_
 refine sf 2 12 ⟨rfl, rfl, rfl⟩ rfl rfl rfl rfl ?_
 refine sf 1 13 ⟨rfl, rfl, rfl⟩ rfl rfl rfl rfl ?_
 refine sf 0 14 ⟨rfl, rfl, rfl⟩ rfl rfl rfl rfl ?_
 refine TO.nil (Fin.go (wk14 1 2 3 4 5 6 7 8 9 10 11 12 13 14 rfl (Tr.seq (Tr.pad (Tr.rx (xo rfl (fun _ => ok_loadA rfl agg44 sz44 (vl rfl) rfl rfl) (xo rfl (fun _ => ok_loadA rfl agg44 sz44 (vl rfl) rfl rfl) (xo rfl (fun _ => kc2 (w_use) rfl rfl rfl) (xo rfl (fun _ => ok_loadA rfl agg44 sz44 (vl rfl) rfl rfl) (xo rfl (fun _ => ok_build (rows := [(1, [_]), (2, _), (3, _), (4, _), (5, _), (6, [_]), (7, [_])]) rfl bl106 zo106 ⟨⟨rfl, (VL.le (vl rfl) (one_cellsP _))⟩, ⟨⟨rfl, (VL.le (vl rfl) (agg_cellsP _))⟩, ⟨⟨rfl, (VL.le (vl rfl) (agg_cellsP _))⟩, ⟨⟨rfl, (VL.le (vl rfl) (agg_cellsP _))⟩, ⟨⟨rfl, (VL.le (vl rfl) (agg_cellsP _))⟩, ⟨⟨rfl, (VL.le (vl rfl) (one_cellsP _))⟩, ⟨⟨rfl, (VL.le (vl rfl) (one_cellsP _))⟩, trivial⟩⟩⟩⟩⟩⟩⟩ rfl) (xo rfl (fun _ => ok_loadA rfl agg44 sz44 (vl rfl) rfl rfl) (xo rfl (fun _ => ok_loadA rfl agg44 sz44 (vl rfl) rfl rfl) (xo rfl (fun _ => kc2 (w_use) rfl rfl rfl) ?_)))))))))))))
 refine xo rfl (fun _ => ok_loadA rfl agg44 sz44 (vl rfl) rfl rfl) (xo rfl (fun _ => ok_build (rows := [(1, [_]), (2, _), (3, _), (4, _), (5, _), (6, [_]), (7, [_])]) rfl bl106 zo106 ⟨⟨rfl, (VL.le (vl rfl) (one_cellsP _))⟩, ⟨⟨rfl, (VL.le (vl rfl) (agg_cellsP _))⟩, ⟨⟨rfl, (VL.le (vl rfl) (agg_cellsP _))⟩, ⟨⟨rfl, (VL.le (vl rfl) (agg_cellsP _))⟩, ⟨⟨rfl, (VL.le (vl rfl) (agg_cellsP _))⟩, ⟨⟨rfl, (VL.le (vl rfl) (one_cellsP _))⟩, ⟨⟨rfl, (VL.le (vl rfl) (one_cellsP _))⟩, trivial⟩⟩⟩⟩⟩⟩⟩ rfl) ?_)
 iterate 4 refine xo rfl (fun _ => ok_loadA rfl agg44 sz44 (vl rfl) rfl rfl) ?_
 refine xo rfl (fun _ => ok_build (rows := [(1, [_]), (2, _), (3, _), (4, _), (5, _), (6, [_]), (7, [_])]) rfl bl106 zo106 ⟨⟨rfl, (VL.le (vl rfl) (one_cellsP _))⟩, ⟨⟨rfl, (VL.le (vl rfl) (agg_cellsP _))⟩, ⟨⟨rfl, (VL.le (vl rfl) (agg_cellsP _))⟩, ⟨⟨rfl, (VL.le (vl rfl) (agg_cellsP _))⟩, ⟨⟨rfl, (VL.le (vl rfl) (agg_cellsP _))⟩, ⟨⟨rfl, (VL.le (vl rfl) (one_cellsP _))⟩, ⟨⟨rfl, (VL.le (vl rfl) (one_cellsP _))⟩, trivial⟩⟩⟩⟩⟩⟩⟩ rfl) (xo rfl (fun _ => kc2 (w_use) rfl rfl rfl) (xo rfl (fun _ => ok_loadA rfl agg44 sz44 (vl rfl) rfl rfl) (xo rfl (fun _ => ok_loadA rfl agg44 sz44 (vl rfl) rfl rfl) (xo rfl (fun _ => ok_loadA rfl agg44 sz44 (vl rfl) rfl rfl) (xo rfl (fun _ => ok_build (rows := [(1, [_]), (2, _), (3, _), (4, _), (5, _), (6, [_]), (7, [_])]) rfl bl106 zo106 ⟨⟨rfl, (VL.le (vl rfl) (one_cellsP _))⟩, ⟨⟨rfl, (VL.le (vl rfl) (agg_cellsP _))⟩, ⟨⟨rfl, (VL.le (vl rfl) (agg_cellsP _))⟩, ⟨⟨rfl, (VL.le (vl rfl) (agg_cellsP _))⟩, ⟨⟨rfl, (VL.le (vl rfl) (agg_cellsP _))⟩, ⟨⟨rfl, (VL.le (vl rfl) (one_cellsP _))⟩, ⟨⟨rfl, (VL.le (vl rfl) (one_cellsP _))⟩, trivial⟩⟩⟩⟩⟩⟩⟩ rfl) (xo rfl (fun _ => kc2 (w_use) rfl rfl rfl) (xo rfl (fun _ => ok_loadA rfl agg44 sz44 (vl rfl) rfl rfl) (xo rfl (fun _ => ok_loadA rfl agg44 sz44 (vl rfl) rfl rfl) (xo rfl (fun _ => ok_loadA rfl agg44 sz44 (vl rfl) rfl rfl) (xo rfl (fun _ => ok_build (rows := [(1, [_]), (2, _), (3, _), (4, _), (5, _), (6, [_]), (7, [_])]) rfl bl106 zo106 ⟨⟨rfl, (VL.le (vl rfl) (one_cellsP _))⟩, ⟨⟨rfl, (VL.le (vl rfl) (agg_cellsP _))⟩, ⟨⟨rfl, (VL.le (vl rfl) (agg_cellsP _))⟩, ⟨⟨rfl, (VL.le (vl rfl) (agg_cellsP _))⟩, ⟨⟨rfl, (VL.le (vl rfl) (agg_cellsP _))⟩, ⟨⟨rfl, (VL.le (vl rfl) (one_cellsP _))⟩, ⟨⟨rfl, (VL.le (vl rfl) (one_cellsP _))⟩, trivial⟩⟩⟩⟩⟩⟩⟩ rfl) ?_))))))))))
 iterate 4 refine xo rfl (fun _ => ok_loadA rfl agg44 sz44 (vl rfl) rfl rfl) ?_
 refine xo rfl (fun _ => ok_build (rows := [(1, [_]), (2, _), (3, _), (4, _), (5, _), (6, [_]), (7, [_])]) rfl bl106 zo106 ⟨⟨rfl, (VL.le (vl rfl) (one_cellsP _))⟩, ⟨⟨rfl, (VL.le (vl rfl) (agg_cellsP _))⟩, ⟨⟨rfl, (VL.le (vl rfl) (agg_cellsP _))⟩, ⟨⟨rfl, (VL.le (vl rfl) (agg_cellsP _))⟩, ⟨⟨rfl, (VL.le (vl rfl) (agg_cellsP _))⟩, ⟨⟨rfl, (VL.le (vl rfl) (one_cellsP _))⟩, ⟨⟨rfl, (VL.le (vl rfl) (one_cellsP _))⟩, trivial⟩⟩⟩⟩⟩⟩⟩ rfl) (xo rfl (fun _ => kc2 (w_use) rfl rfl rfl) (xo rfl (fun _ => ok_loadA rfl agg44 sz44 (vl rfl) rfl rfl) (xo rfl (fun _ => ok_loadA rfl agg44 sz44 (vl rfl) rfl rfl) (xo rfl (fun _ => ok_loadA rfl agg44 sz44 (vl rfl) rfl rfl) (xo rfl (fun _ => ok_build (rows := [(1, [_]), (2, _), (3, _), (4, _), (5, _), (6, [_]), (7, [_])]) rfl bl106 zo106 ⟨⟨rfl, (VL.le (vl rfl) (one_cellsP _))⟩, ⟨⟨rfl, (VL.le (vl rfl) (agg_cellsP _))⟩, ⟨⟨rfl, (VL.le (vl rfl) (agg_cellsP _))⟩, ⟨⟨rfl, (VL.le (vl rfl) (agg_cellsP _))⟩, ⟨⟨rfl, (VL.le (vl rfl) (agg_cellsP _))⟩, ⟨⟨rfl, (VL.le (vl rfl) (one_cellsP _))⟩, ⟨⟨rfl, (VL.le (vl rfl) (one_cellsP _))⟩, trivial⟩⟩⟩⟩⟩⟩⟩ rfl) ?_)))))
 iterate 4 refine xo rfl (fun _ => ok_loadA rfl agg44 sz44 (vl rfl) rfl rfl) ?_
 refine xo rfl (fun _ => ok_build (rows := [(1, [_]), (2, _), (3, _), (4, _), (5, _), (6, [_]), (7, [_])]) rfl bl106 zo106 ⟨⟨rfl, (VL.le (vl rfl) (one_cellsP _))⟩, ⟨⟨rfl, (VL.le (vl rfl) (agg_cellsP _))⟩, ⟨⟨rfl, (VL.le (vl rfl) (agg_cellsP _))⟩, ⟨⟨rfl, (VL.le (vl rfl) (agg_cellsP _))⟩, ⟨⟨rfl, (VL.le (vl rfl) (agg_cellsP _))⟩, ⟨⟨rfl, (VL.le (vl rfl) (one_cellsP _))⟩, ⟨⟨rfl, (VL.le (vl rfl) (one_cellsP _))⟩, trivial⟩⟩⟩⟩⟩⟩⟩ rfl) (xo rfl (fun _ => ok_loadA rfl agg44 sz44 (vl rfl) rfl rfl) (xo rfl (fun _ => ok_loadA rfl agg44 sz44 (vl rfl) rfl rfl) (xo rfl (fun _ => kc2 (w_use) rfl rfl rfl) (xo rfl (fun _ => kc2 (w_use) rfl rfl rfl) (xo rfl (fun _ => ok_build (rows := [(1, [_]), (2, _), (3, _), (4, _), (5, _), (6, [_]), (7, [_])]) rfl bl106 zo106 ⟨⟨rfl, (VL.le (vl rfl) (one_cellsP _))⟩, ⟨⟨rfl, (VL.le (vl rfl) (agg_cellsP _))⟩, ⟨⟨rfl, (VL.le (vl rfl) (agg_cellsP _))⟩, ⟨⟨rfl, (VL.le (vl rfl) (agg_cellsP _))⟩, ⟨⟨rfl, (VL.le (vl rfl) (agg_cellsP _))⟩, ⟨⟨rfl, (VL.le (vl rfl) (one_cellsP _))⟩, ⟨⟨rfl, (VL.le (vl rfl) (one_cellsP _))⟩, trivial⟩⟩⟩⟩⟩⟩⟩ rfl) ?_)))))
 iterate 4 refine xo rfl (fun _ => ok_loadA rfl agg44 sz44 (vl rfl) rfl rfl) ?_
 refine xo rfl (fun _ => ok_build (rows := [(1, [_]), (2, _), (3, _), (4, _), (5, _), (6, [_]), (7, [_])]) rfl bl106 zo106 ⟨⟨rfl, (VL.le (vl rfl) (one_cellsP _))⟩, ⟨⟨rfl, (VL.le (vl rfl) (agg_cellsP _))⟩, ⟨⟨rfl, (VL.le (vl rfl) (agg_cellsP _))⟩, ⟨⟨rfl, (VL.le (vl rfl) (agg_cellsP _))⟩, ⟨⟨rfl, (VL.le (vl rfl) (agg_cellsP _))⟩, ⟨⟨rfl, (VL.le (vl rfl) (one_cellsP _))⟩, ⟨⟨rfl, (VL.le (vl rfl) (one_cellsP _))⟩, trivial⟩⟩⟩⟩⟩⟩⟩ rfl) (xo rfl (fun _ => kc2 (w_use) rfl rfl rfl) (xo rfl (fun _ => ok_loadA rfl agg44 sz44 (vl rfl) rfl rfl) (xo rfl (fun _ => ok_loadA rfl agg44 sz44 (vl rfl) rfl rfl) (xo rfl (fun _ => ok_loadA rfl agg44 sz44 (vl rfl) rfl rfl) (xo rfl (fun _ => ok_build (rows := [(1, [_]), (2, _), (3, _), (4, _), (5, _), (6, [_]), (7, [_])]) rfl bl106 zo106 ⟨⟨rfl, (VL.le (vl rfl) (one_cellsP _))⟩, ⟨⟨rfl, (VL.le (vl rfl) (agg_cellsP _))⟩, ⟨⟨rfl, (VL.le (vl rfl) (agg_cellsP _))⟩, ⟨⟨rfl, (VL.le (vl rfl) (agg_cellsP _))⟩, ⟨⟨rfl, (VL.le (vl rfl) (agg_cellsP _))⟩, ⟨⟨rfl, (VL.le (vl rfl) (one_cellsP _))⟩, ⟨⟨rfl, (VL.le (vl rfl) (one_cellsP _))⟩, trivial⟩⟩⟩⟩⟩⟩⟩ rfl) ?_)))))
 iterate 4 refine xo rfl (fun _ => ok_loadA rfl agg44 sz44 (vl rfl) rfl rfl) ?_
 refine xo rfl (fun _ => ok_build (rows := [(1, [_]), (2, _), (3, _), (4, _), (5, _), (6, [_]), (7, [_])]) rfl bl106 zo106 ⟨⟨rfl, (VL.le (vl rfl) (one_cellsP _))⟩, ⟨⟨rfl, (VL.le (vl rfl) (agg_cellsP _))⟩, ⟨⟨rfl, (VL.le (vl rfl) (agg_cellsP _))⟩, ⟨⟨rfl, (VL.le (vl rfl) (agg_cellsP _))⟩, ⟨⟨rfl, (VL.le (vl rfl) (agg_cellsP _))⟩, ⟨⟨rfl, (VL.le (vl rfl) (one_cellsP _))⟩, ⟨⟨rfl, (VL.le (vl rfl) (one_cellsP _))⟩, trivial⟩⟩⟩⟩⟩⟩⟩ rfl) ?_
 iterate 4 refine xo rfl (fun _ => ok_loadA rfl agg44 sz44 (vl rfl) rfl rfl) ?_
 refine xo rfl (fun _ => ok_build (rows := [(1, [_]), (2, _), (3, _), (4, _), (5, _), (6, [_]), (7, [_])]) rfl bl106 zo106 ⟨⟨rfl, (VL.le (vl rfl) (one_cellsP _))⟩, ⟨⟨rfl, (VL.le (vl rfl) (agg_cellsP _))⟩, ⟨⟨rfl, (VL.le (vl rfl) (agg_cellsP _))⟩, ⟨⟨rfl, (VL.le (vl rfl) (agg_cellsP _))⟩, ⟨⟨rfl, (VL.le (vl rfl) (agg_cellsP _))⟩, ⟨⟨rfl, (VL.le (vl rfl) (one_cellsP _))⟩, ⟨⟨rfl, (VL.le (vl rfl) (one_cellsP _))⟩, trivial⟩⟩⟩⟩⟩⟩⟩ rfl) ?_
 iterate 4 refine xo rfl (fun _ => ok_loadA rfl agg44 sz44 (vl rfl) rfl rfl) ?_
 refine xo rfl (fun _ => ok_build (rows := [(1, [_]), (2, _), (3, _), (4, _), (5, _), (6, [_]), (7, [_])]) rfl bl106 zo106 ⟨⟨rfl, (VL.le (vl rfl) (one_cellsP _))⟩, ⟨⟨rfl, (VL.le (vl rfl) (agg_cellsP _))⟩, ⟨⟨rfl, (VL.le (vl rfl) (agg_cellsP _))⟩, ⟨⟨rfl, (VL.le (vl rfl) (agg_cellsP _))⟩, ⟨⟨rfl, (VL.le (vl rfl) (agg_cellsP _))⟩, ⟨⟨rfl, (VL.le (vl rfl) (one_cellsP _))⟩, ⟨⟨rfl, (VL.le (vl rfl) (one_cellsP _))⟩, trivial⟩⟩⟩⟩⟩⟩⟩ rfl) ?_
 iterate 4 refine xo rfl (fun _ => ok_loadA rfl agg44 sz44 (vl rfl) rfl rfl) ?_
 refine xo rfl (fun _ => ok_build (rows := [(1, [_]), (2, _), (3, _), (4, _), (5, _), (6, [_]), (7, [_])]) rfl bl106 zo106 ⟨⟨rfl, (VL.le (vl rfl) (one_cellsP _))⟩, ⟨⟨rfl, (VL.le (vl rfl) (agg_cellsP _))⟩, ⟨⟨rfl, (VL.le (vl rfl) (agg_cellsP _))⟩, ⟨⟨rfl, (VL.le (vl rfl) (agg_cellsP _))⟩, ⟨⟨rfl, (VL.le (vl rfl) (agg_cellsP _))⟩, ⟨⟨rfl, (VL.le (vl rfl) (one_cellsP _))⟩, ⟨⟨rfl, (VL.le (vl rfl) (one_cellsP _))⟩, trivial⟩⟩⟩⟩⟩⟩⟩ rfl) (xo rfl (fun _ => kc2 (w_use) rfl rfl rfl) (xo rfl (fun _ => ok_loadA rfl agg44 sz44 (vl rfl) rfl rfl) (xo rfl (fun _ => ok_loadA rfl agg44 sz44 (vl rfl) rfl rfl) (xo rfl (fun _ => ok_loadA rfl agg44 sz44 (vl rfl) rfl rfl) (xo rfl (fun _ => ok_build (rows := [(1, [_]), (2, _), (3, _), (4, _), (5, _), (6, [_]), (7, [_])]) rfl bl106 zo106 ⟨⟨rfl, (VL.le (vl rfl) (one_cellsP _))⟩, ⟨⟨rfl, (VL.le (vl rfl) (agg_cellsP _))⟩, ⟨⟨rfl, (VL.le (vl rfl) (agg_cellsP _))⟩, ⟨⟨rfl, (VL.le (vl rfl) (agg_cellsP _))⟩, ⟨⟨rfl, (VL.le (vl rfl) (agg_cellsP _))⟩, ⟨⟨rfl, (VL.le (vl rfl) (one_cellsP _))⟩, ⟨⟨rfl, (VL.le (vl rfl) (one_cellsP _))⟩, trivial⟩⟩⟩⟩⟩⟩⟩ rfl) (Cx.ef 0 rfl rfl (by decide) (ef_buildM (xs := [.tmp 35, .tmp 40, .tmp 45, .tmp 50, .tmp 55, .tmp 60, .tmp 65, .tmp 70, .tmp 75, .tmp 80, .tmp 85, .tmp 90, .tmp 95, .tmp 100, .tmp 105, .tmp 110]) (rows := anyRows) rfl rfl (by decide) rfl rfl Tryz.underlying152 sz106 z106 rfl (by decide) ⟨⟨(by exact rfl), VL.le (vl rfl) (Pr.le_trans (agg_any rfl) (agg_cellsP _))⟩, ⟨⟨(by exact rfl), VL.le (vl rfl) (Pr.le_trans (agg_any rfl) (agg_cellsP _))⟩, ⟨⟨(by exact rfl), VL.le (vl rfl) (Pr.le_trans (agg_any rfl) (agg_cellsP _))⟩, ⟨⟨(by exact rfl), VL.le (vl rfl) (Pr.le_trans (agg_any rfl) (agg_cellsP _))⟩, ⟨⟨(by exact rfl), VL.le (vl rfl) (Pr.le_trans (agg_any rfl) (agg_cellsP _))⟩, ⟨⟨(by exact rfl), VL.le (vl rfl) (Pr.le_trans (agg_any rfl) (agg_cellsP _))⟩, ⟨⟨(by exact rfl), VL.le (vl rfl) (Pr.le_trans (agg_any rfl) (agg_cellsP _))⟩, ⟨⟨(by exact rfl), VL.le (vl rfl) (Pr.le_trans (agg_any rfl) (agg_cellsP _))⟩, ⟨⟨(by exact rfl), VL.le (vl rfl) (Pr.le_trans (agg_any rfl) (agg_cellsP _))⟩, ⟨⟨(by exact rfl), VL.le (vl rfl) (Pr.le_trans (agg_any rfl) (agg_cellsP _))⟩, ⟨⟨(by exact rfl), VL.le (vl rfl) (Pr.le_trans (agg_any rfl) (agg_cellsP _))⟩, ⟨⟨(by exact rfl), VL.le (vl rfl) (Pr.le_trans (agg_any rfl) (agg_cellsP _))⟩, ⟨⟨(by exact rfl), VL.le (vl rfl) (Pr.le_trans (agg_any rfl) (agg_cellsP _))⟩, ⟨⟨(by exact rfl), VL.le (vl rfl) (Pr.le_trans (agg_any rfl) (agg_cellsP _))⟩, ⟨⟨(by exact rfl), VL.le (vl rfl) (Pr.le_trans (agg_any rfl) (agg_cellsP _))⟩, ⟨⟨(by exact rfl), VL.le (vl rfl) (Pr.le_trans (agg_any rfl) (agg_cellsP _))⟩, trivial⟩⟩⟩⟩⟩⟩⟩⟩⟩⟩⟩⟩⟩⟩⟩⟩ (by decide) (by decide)) ?_))))))
 refine Cx.ef 0 rfl rfl (by decide) (ef_move rfl rfl (by decide) rfl (vl rfl)) ?_
 refine Cx.nil ⟨by kernel_rfl, ?_⟩
 refine FinX.open_ 0 15 rfl rfl (fun v1 => ?_)
 refine FinX.done al1 (Fin.go (wk1 15 rfl (Tr.seq (Tr.seq (Tr.openM 0 rfl fun b15 cap15 sp15 hv15 hg15 hm15 hs15 => ?_)))))
 subst hv15
 refine ac ?_
 refine co rfl (okb_len rfl Tryz.underlying152 ⟨_, rfl, andIs_is _ _⟩) ?_
 refine ac ?_
 refine Tr.block (Tr.loopw [(15, _), (113, _)] (kk2 rfl) (fun k : Nat => [(114, int ((k : Nat) : Int))]) (fun k : Nat => k ≤ (anyRows.length)) (fun k : Nat => (anyRows.length) - k) 0 (Nat.zero_le _) ⟨ke rfl, trivial⟩ ?_)
 rintro k hle_k
 refine ac ?_
 refine Tr.seq ?_
 refine Tr.cn rfl ?_ ?_ <;> intro h1 q1
 have hk_k : k < (anyRows.length) := lt_of_dec h1
 have hk16 : k < 16 := hk_k
 refine ac ?_
 refine ac ?_
 refine Tr.regT (tm rfl (tm rfl (tm rfl ?_)))
 refine tp rfl (ok_add rfl (vl rfl) (vl rfl) ?hin) ?_; case hin => unfold InI; omega
 refine tp rfl (okp_indexSl rfl Tryz.underlying152 sz106 ⟨_, rfl, andIs_is _ _⟩ (vl rfl) (by omega) (by omega)) (tp rfl (okp_fieldAddr rfl fo106_0 (vl rfl)) ?_)
 refine TO.ef0 0 rfl rfl (ef_store rfl rfl (vl rfl) (VL.le (vl rfl) (one_any _)) sz3 rfl (by rw [List.length_append, flat_len any_len]; show _ ≤ 16 * 12 + _; omega) (put_any (any_at hk16 (by omega)))) ?_
 refine TO.nil ?_
 refine ac ?_
 refine ac ?_
 exact Fin.fam_same (k + 1) ⟨hk_k, by omega⟩ ⟨⟨_, rfl, int_succ k⟩, ke rfl, ke rfl, trivial⟩
 have he_k : k = (anyRows.length) := by have := ge_of_dec h1; omega
 subst he_k
 refine ac ?_
 refine Tr.seq ?_
 refine Tr.frzS (sz := 12) anyRows 0 15 rfl rfl (andIs_is _ _) any_len hg15 hm15 (by rw [List.length_map]; exact hs15) ?_
 refine ac ?_
 refine ac ?_
 · exact andIs_le _ _
theorem w_Suite {code : Int}  : Fun Tryz.prog 130 [int code] (tup [agg anyRow, int (if 1 ≤ code ∧ code ≤ 16 then 0 else 8)]) := by
 refine fo Tryz.func130 rfl ⟨rfl, rfl⟩ fun M0 w0 => ?_
 have hL : anyRows.length = 16 := rfl
 refine Tr.seq (Tr.regT ?_)
 refine TO.alloc rfl rfl (by decide) rfl z106 zo106 (fun b1 => ?_)
 refine ap ?_
 refine Tr.seq (Tr.reg0 (co rfl (kc0 (w_Suites) rfl) ?_))
 refine ac ?_
 refine ac ?_
 refine Ch.cs 8 rfl ?_ ?_ <;> intro h1 q1
 refine ac ?_
 refine Tr.cond rfl (fun _ => ?_) (fun h => nomatch h)
 refine Tr.seq (Tr.regT (tp rfl (ok_build (rows := []) rfl bl106 zo106 trivial rfl) (TO.store_all 0 rfl rfl rfl (vl rfl) (VL.le (vl rfl) (agg_cellsP _)) rfl sz106 rfl rfl (tm rfl (TO.nil (Fin.go (wk2 2 3 rfl (Tr.ret (Fin.then_ret (Fin.retX2 rfl (RVal.cell 0 rfl rfl agg106 sz106 rfl (Pr.le_refl _)) (RVal.tmp rfl (Pr.le_refl _)) ?_))))))))))
 · exact tup_le ⟨agg_any rfl, int_eq (by rw [if_neg]; simp_all; omega), trivial⟩
 refine ac ?_
 refine cy h1 rfl (ok_len rfl Tryz.underlying152 (vl rfl)) ?_
 refine ac ?_
 refine Tr.cn rfl ?_ ?_ <;> intro h2 q2
 refine ap ?_
 refine wk2 2 3 rfl (Tr.ret (Fin.then_ret (Fin.retX2 rfl (RVal.cell 0 rfl rfl agg106 sz106 rfl (Pr.le_refl _)) (RVal.tmp rfl (Pr.le_refl _)) ?_)))
 · exact tup_le ⟨agg_any rfl, int_eq (by rw [if_neg]; simp_all), trivial⟩
 have hin : 1 ≤ code ∧ code ≤ 16 := by omega
 refine ac ?_
 refine ap ?_
 refine tp rfl (ok_indexAddr rfl Tryz.underlying152 sz106 (vl rfl) (vl rfl) (by omega) (any_rows (by omega))) ?_
 refine ap ?_
 refine wk2 2 3 rfl (Tr.ret (Fin.retX2 rfl (RVal.cell 0 rfl rfl agg106 sz106 rfl (Pr.le_refl _)) (RVal.tmp rfl (Pr.le_refl _)) ?_))
 · exact tup_le ⟨Pr.le_refl _, int_eq (by rw [if_pos hin]), trivial⟩
end Go.Proofs.YtflodcidhlmaaaaGreat
namespace Go.Proofs.YtflodcidhlmaaaaGreat
open Go Go.RowKit Cp
theorem w_Shows {alg bits id : Int} {l : List Crt} (hf : ∀ c ∈ l, c.fits) : Fun Tryz.prog 90 [agg [int alg, int bits], int id, certs l] (bool (showsB alg bits id l)) := by
 refine fo Tryz.func90 rfl ⟨rfl, rfl⟩ fun M0 w0 => (Tr.lenm 2 rfl fun hlm_2 => ?_)
 refine ac ?_
 refine ac ?_
 refine co rfl (kc1 (w_Valid) rfl rfl) ?_
 refine ac ?_
 refine Ch.cs 12 rfl ?_ ?_ <;> intro h1 q1
 refine ac ?_
 refine wk4 1 2 3 27 rfl ?_
 refine ac ?_
 refine ac ?_
 · refine bool_eq ?_; rw [showsB_eq]; unfold ofB; simp_all; omega
 refine ac ?_
 refine cy h1 rfl (kc1 (w_Kind) rfl rfl) ?_
 refine ac ?_
 refine Ch.cs 18 rfl ?_ ?_ <;> intro h2 q2
 refine ac ?_
 refine wk4 1 2 3 27 rfl ?_
 refine ac ?_
 refine ac ?_
 · refine bool_eq ?_; rw [showsB_eq]; unfold ofB; simp_all
 refine cym h2 rfl (cy h2 rfl (kc1 (w_CKey) rfl rfl) ?_)
 refine ac ?_
 refine Ch.cs 23 rfl ?_ ?_ <;> intro h3 q3
 refine ac ?_
 refine wk4 1 2 3 27 rfl ?_
 refine ac ?_
 refine ac ?_
 · refine bool_eq ?_; rw [showsB_eq]; unfold ofB; simp_all
 refine ac ?_
 refine wk4 1 2 3 27 rfl ?_
 refine Tr.cn rfl ?_ ?_ <;> intro h4 q4
 refine ac ?_
 refine ac ?_
 · refine bool_eq ?_; rw [showsB_eq]; unfold ofB; simp_all; omega
 refine ac ?_
 refine ac ?_
 refine Tr.block (Tr.loopw [(1, _), (2, _), (3, _), (28, _), (29, _)] (kk5 rfl) (fun k : Nat => [(30, int ((k : Nat) : Int))]) (fun k : Nat => k ≤ (l).length ∧ (∀ j y, j < k → l[j]? = some y → (!validB y) = false)) (fun k : Nat => (l).length - k) 0 (⟨Nat.zero_le _, fun j y hj => absurd hj (by omega)⟩) ⟨ke rfl, trivial⟩ ?_)
 rintro k ⟨hle_k, hinv_k⟩
 refine ac ?_
 refine Tr.seq ?_
 refine Tr.cn rfl ?_ ?_ <;> intro h5 q5
 have hk_k : k < (l).length := lt_of_dec h5
 obtain ⟨c, hx_k⟩ := at_ hk_k
 have hcf := hf c (List.mem_of_getElem? hx_k)
 refine ac ?_
 refine Tr.seq (Tr.block (Tr.seq (Tr.regT (tp rfl (ok_indexAddr rfl Tryz.underlying45 sz126 (vl rfl) (vl rfl) (by omega) (by exact row_at (by assumption))) ?_))))
 refine tp rfl (ok_loadA rfl agg126 sz126 (vl rfl) rfl rfl) ?_
 refine TO.alloc rfl rfl (by decide) rfl z126 zo126 (fun b1 => ?_)
 refine sf 0 8 ⟨rfl, rfl, rfl⟩ rfl rfl rfl rfl ?_
 refine ao ?_
 refine ac ?_
 refine co rfl (kc1 (w_CCheck hcf) rfl rfl) ?_
 refine ac ?_
 refine wk7 1 2 3 28 29 30 36 rfl ?_
 refine Tr.cn rfl ?_ ?_ <;> intro h6 q6
 refine ac ?_
 refine ac ?_
 · refine bool_eq ?_; rw [showsB_eq]; unfold ofB; rw [all_hit (p := validB) hx_k (by simp_all)]; simp
 refine ac ?_
 refine ac ?_
 exact Fin.fam_same (k + 1) ⟨⟨hk_k, step_no (p := fun c => !validB c) hx_k (by simp_all) hinv_k⟩, by omega⟩ ⟨⟨_, rfl, int_succ k⟩, ke rfl, ke rfl, ke rfl, ke rfl, ke rfl, trivial⟩
 have he_k : k = (l).length := by have := ge_of_dec h5; omega
 subst he_k
 have hall := all_end hinv_k
 refine ac ?_
 refine ac ?_
 refine Ch.cs 41 rfl ?_ ?_ <;> intro h7 q7
 refine ac ?_
 refine wk1 6 rfl ?_
 refine ac ?_
 · refine bool_eq ?_; rw [showsB_eq]; unfold ofB; rw [hall, headB_nil (by simp_all)]; simp_all
 obtain ⟨c0, hc0⟩ := at_ (l := l) (k := 0) (by have := h7; simp at this; exact List.length_pos_iff.2 this)
 refine cym h7 rfl ?_
 refine cy h7 rfl (ok_indexAddr rfl Tryz.underlying45 sz126 (vl rfl) (vl rfl) (by omega) (row_at (k := 0) hc0)) ?_
 refine ac ?_
 refine cy h7 rfl (ok_eq44 rfl (vl rfl) (vl rfl)) (cym h7 rfl ?_)
 refine Ch.cs 48 rfl ?_ ?_ <;> intro h8 q8
 refine cym h8 rfl ?_
 refine cy h8 rfl (ok_indexAddr rfl Tryz.underlying45 sz126 (vl rfl) (vl rfl) (by omega) (row_at (k := 0) hc0)) ?_
 refine ac ?_
 refine wk1 6 rfl ?_
 refine ac ?_
 · refine bool_eq ?_; rw [showsB_eq]; unfold ofB; rw [hall, headB_at hc0]; clear hall hinv_k hf hc0; simp_all; omega
 refine ac ?_
 refine wk1 6 rfl ?_
 refine ac ?_
 · refine bool_eq ?_; rw [showsB_eq]; unfold ofB; rw [hall, headB_at hc0]; clear hall hinv_k hf hc0; simp_all
theorem w_ascends {l : List Int}  : Fun Tryz.prog 89 [ints l] (bool (ascB l)) := by
 refine fo Tryz.func89 rfl ⟨rfl, rfl⟩ fun M0 w0 => (Tr.lenm 0 rfl fun hlm_0 => ?_)
 refine ac ?_
 refine ac ?_
 refine Tr.block (Tr.loopw [(0, _), (5, _)] (kk2 rfl) (fun k : Nat => [(6, int ((k : Nat) : Int))]) (fun k : Nat => k ≤ (l).length ∧ (∀ j, j < k → ascAt l j = true)) (fun k : Nat => (l).length - k) 0 (⟨Nat.zero_le _, fun j hj => absurd hj (by omega)⟩) ⟨ke rfl, trivial⟩ ?_)
 rintro k ⟨hle_k, hinv_k⟩
 refine ac ?_
 refine Tr.seq ?_
 refine Tr.cn rfl ?_ ?_ <;> intro h1 q1
 have hk_k : k < (l).length := lt_of_dec h1
 obtain ⟨x, hx_k⟩ := at_ hk_k
 have hg := getD_at (d := (0 : Int)) hx_k
 refine ac ?_
 refine ac ?_
 refine ac ?_
 refine Ch.cs 11 rfl ?_ ?_ <;> intro h2 q2
 have hk0 : 0 < k := by simpa using h2
 obtain ⟨y, hy⟩ := at_ (l := l) (k := k - 1) (by omega)
 have hgy := getD_at (d := (0 : Int)) hy
 refine ac ?_
 refine cy h2 rfl (ok_indexAddr rfl Tryz.underlying22 sz3 (vl rfl) (vl rfl) (by omega) (by rw [show ((k : Nat) : Int) - 1 = ((k - 1 : Nat) : Int) by omega]; exact row_at hy)) ?_
 refine ac ?_
 refine cy h2 rfl (ok_indexAddr rfl Tryz.underlying22 sz3 (vl rfl) (vl rfl) (by omega) (row_at hx_k)) ?_
 refine ac ?_
 refine wk4 0 5 6 22 rfl ?_
 refine Tr.cn rfl ?_ ?_ <;> intro h3 q3
 refine ac ?_
 refine ac ?_
 · refine bool_eq ?_; unfold ascB; exact (allI_hit (p := ascAt l) (k := k) (by omega) (by unfold ascAt; rw [hg, hgy]; simp_all; omega)).symm
 refine ac ?_
 refine ac ?_
 exact Fin.fam_same (k + 1) ⟨⟨hk_k, allI_step hinv_k (by unfold ascAt; rw [hg, hgy]; simp_all)⟩, by omega⟩ ⟨⟨_, rfl, int_succ k⟩, ke rfl, ke rfl, trivial⟩
 refine ac ?_
 refine wk4 0 5 6 22 rfl ?_
 refine ac ?_
 refine ac ?_
 exact Fin.fam_same (k + 1) ⟨⟨hk_k, allI_step hinv_k (by unfold ascAt; rw [hg]; simp_all)⟩, by omega⟩ ⟨⟨_, rfl, int_succ k⟩, ke rfl, ke rfl, trivial⟩
 have he_k : k = (l).length := by have := ge_of_dec h1; omega
 subst he_k
 refine ac ?_
 refine ac ?_
 refine ac ?_
 · refine bool_eq ?_; unfold ascB; exact (allI_end hinv_k).symm
theorem w_hash {n : Int}  : Fun Tryz.prog 95 [int n] (bool (hashB n)) := by
 refine fo Tryz.func95 rfl ⟨rfl, rfl⟩ fun M0 w0 => ?_
 refine ac ?_
 refine ac ?_
 refine co rfl (kc1 (w_Kind) rfl rfl) ?_
 refine ac ?_
 refine ac ?_
 · exact Pr.le_refl _
theorem e_hash : Entry Tryz.prog 95 := ⟨_, Tryz.func95, rfl, rfl⟩
theorem w_suites {l : List Int}  : Fun Tryz.prog 88 [ints l] (bool (suitesB l)) := by
 refine fo Tryz.func88 rfl ⟨rfl, rfl⟩ fun M0 w0 => (Tr.lenm 0 rfl fun hlm_0 => ?_)
 refine ac ?_
 refine ac ?_
 refine Tr.block (Tr.loopw [(0, _), (7, _), (8, _)] (kk3 rfl) (fun k : Nat => [(9, int ((k : Nat) : Int))]) (fun k : Nat => k ≤ (l).length ∧ (∀ j, j < k → suiteAt l j = true)) (fun k : Nat => (l).length - k) 0 (⟨Nat.zero_le _, fun j hj => absurd hj (by omega)⟩) ⟨ke rfl, trivial⟩ ?_)
 rintro k ⟨hle_k, hinv_k⟩
 refine ac ?_
 refine Tr.seq ?_
 refine Tr.cn rfl ?_ ?_ <;> intro h1 q1
 have hk_k : k < (l).length := lt_of_dec h1
 obtain ⟨x, hx_k⟩ := at_ hk_k
 have hg := getD_at (d := (0 : Int)) hx_k
 refine ac ?_
 refine ac ?_
 refine co rfl (ok_indexAddr rfl Tryz.underlying22 sz3 (vl rfl) (vl rfl) (by omega) (by exact row_at (by assumption))) ?_
 refine ac ?_
 refine ao ?_
 refine tp rfl (kc1 (w_Suite) rfl rfl) ?_
 refine ao ?_
 refine TO.alloc rfl rfl (by decide) rfl z106 zo106 (fun b1 => ?_)
 refine sf 0 5 ⟨rfl, rfl, rfl⟩ rfl rfl rfl rfl ?_
 refine ao ?_
 refine wk7 0 3 4 6 7 8 9 rfl ?_
 refine ac ?_
 refine Ch.cs 21 rfl ?_ ?_ <;> intro h2 q2
 have hnin : ¬ (1 ≤ x ∧ x ≤ 16) := by intro hh; rw [if_pos hh] at h2; exact absurd h2 (by decide)
 refine ac ?_
 refine wk5 0 7 8 9 27 rfl ?_
 refine ac ?_
 refine ac ?_
 · refine bool_eq ?_; unfold suitesB; exact (allI_hit (p := suiteAt l) (k := k) (by omega) (by unfold suiteAt; rw [hg]; rw [decide_eq_false hnin]; rfl)).symm
 have hin : 1 ≤ x ∧ x ≤ 16 := by refine Decidable.byContradiction fun hh => ?_; rw [if_neg hh] at h2; exact absurd h2 (by decide)
 refine ac ?_
 refine cy h2 rfl (ok_sliceTo rfl Tryz.underlying22 sz3 (vl rfl) (vl rfl) (by omega) (by simp; omega)) ?_
 refine cym h2 rfl ?_
 refine cy h2 rfl (ok_call rfl (w_ContainsI (l := l.take k) (v := x)) ⟨⟨_, rfl, Pr.le_of_eq (by rw [← List.map_take, Int.toNat_natCast])⟩, ke rfl, trivial⟩) ?_
 refine ac ?_
 refine wk5 0 7 8 9 27 rfl ?_
 refine Tr.cn rfl ?_ ?_ <;> intro h3 q3
 refine ac ?_
 refine ac ?_
 · refine bool_eq ?_; unfold suitesB; exact (allI_hit (p := suiteAt l) (k := k) (by omega) (by unfold suiteAt; rw [hg]; rw [decide_eq_true hin]; simp_all)).symm
 refine ac ?_
 refine ac ?_
 exact Fin.fam_same (k + 1) ⟨⟨hk_k, allI_step hinv_k (by unfold suiteAt; rw [hg]; rw [decide_eq_true hin]; simp_all)⟩, by omega⟩ ⟨⟨_, rfl, int_succ k⟩, ke rfl, ke rfl, ke rfl, trivial⟩
 have he_k : k = (l).length := by have := ge_of_dec h1; omega
 subst he_k
 refine ac ?_
 refine ac ?_
 refine ac ?_
 · refine bool_eq ?_; unfold suitesB; exact (allI_end hinv_k).symm
theorem w_EC11 {p : Int → Bool} {n : Int}  : Fun Tryz.prog 92 [int n, ref [clo Tryz.prog (fun x : Int => [int x]) (fun x => bool (p x))]] (bool (!p n)) := by
 refine fo Tryz.func92 rfl ⟨rfl, rfl⟩ fun M0 w0 => ?_
 refine ac ?_
 refine ac ?_
 refine co rfl (ok_callc n rfl (vl rfl) ⟨ke rfl, trivial⟩) ?_
 refine ac ?_
 refine ac ?_
 · exact Pr.le_refl _
theorem e_EC11 : Entry Tryz.prog 92 := ⟨_, Tryz.func92, rfl, rfl⟩
theorem w_EC1 {p : Int → Bool}  : Fun Tryz.prog 91 [clo Tryz.prog (fun x : Int => [int x]) (fun x => bool (p x))] (clo Tryz.prog (fun x : Int => [int x]) (fun x => bool (!p x))) := by
 refine fo Tryz.func91 rfl ⟨rfl, rfl⟩ fun M0 w0 => ?_
 refine ac ?_
 refine ac ?_
 refine ac ?_
 · exact fn_le_clo e_EC11 (fun x => w_EC11 (p := p) (n := x))
theorem e_EC1 : Entry Tryz.prog 91 := ⟨_, Tryz.func91, rfl, rfl⟩
theorem w_ECheck {e : Ept} (hf : e.fits) : Fun Tryz.prog 52 [agg (rowEp e)] (int (if eptB e then 0 else 19)) := by
 refine fo Tryz.func52 rfl ⟨rfl, rfl⟩ fun M0 w0 => ?_
 refine ac ?_
 refine ac ?_
 refine co rfl (kc1 (w_Word hf.name) rfl rfl) ?_
 refine ac ?_
 refine Ch.cs 10 rfl ?_ ?_ <;> intro h1 q1
 refine ac ?_
 refine wk2 1 32 rfl ?_
 refine ac ?_
 refine ac ?_
 · refine int_eq ?_; unfold eptB; simp_all
 refine ac ?_
 refine Ch.cs 15 rfl ?_ ?_ <;> intro h2 q2
 refine ac ?_
 refine wk2 1 32 rfl ?_
 refine ac ?_
 refine ac ?_
 · refine int_eq ?_; unfold eptB; simp_all; omega
 refine ac ?_
 refine Ch.cs 22 rfl ?_ ?_ <;> intro h3 q3
 refine ac ?_
 refine wk2 1 32 rfl ?_
 refine ac ?_
 refine ac ?_
 · refine int_eq ?_; unfold eptB; simp_all; omega
 refine ac ?_
 refine Ch.cs 27 rfl ?_ ?_ <;> intro h4 q4
 refine ac ?_
 refine wk2 1 32 rfl ?_
 refine ac ?_
 refine ac ?_
 · refine int_eq ?_; unfold eptB; simp_all; omega
 refine ac ?_
 refine cy h4 rfl (kc1 (w_suites) rfl rfl) ?_
 refine ac ?_
 refine wk2 1 32 rfl ?_
 refine Tr.cn rfl ?_ ?_ <;> intro h5 q5
 refine ac ?_
 refine ac ?_
 · refine int_eq ?_; unfold eptB; simp_all
 refine ac ?_
 refine ac ?_
 refine Ch.cs 37 rfl ?_ ?_ <;> intro h6 q6
 refine ac ?_
 refine wk2 1 54 rfl ?_
 refine ac ?_
 refine ac ?_
 · refine int_eq ?_; unfold eptB; simp_all; omega
 refine ac ?_
 refine Ch.cs 43 rfl ?_ ?_ <;> intro h7 q7
 refine ac ?_
 refine wk2 1 54 rfl ?_
 refine ac ?_
 refine ac ?_
 · refine int_eq ?_; unfold eptB; simp_all; omega
 refine ac ?_
 refine cy h7 rfl (kc1 (w_ascends) rfl rfl) ?_
 refine ac ?_
 refine Ch.cs 49 rfl ?_ ?_ <;> intro h8 q8
 refine ac ?_
 refine wk2 1 54 rfl ?_
 refine ac ?_
 refine ac ?_
 · refine int_eq ?_; unfold eptB; simp_all
 refine ac ?_
 refine cy h8 rfl (kc1 (w_ascends) rfl rfl) ?_
 refine ac ?_
 refine wk2 1 54 rfl ?_
 refine Tr.cn rfl ?_ ?_ <;> intro h9 q9
 refine ac ?_
 refine ac ?_
 · refine int_eq ?_; unfold eptB; simp_all
 refine ac ?_
 refine ac ?_
 refine Tr.block (Tr.loopw [(1, _), (56, _), (57, _)] (kk3 rfl) (fun k : Nat => [(58, int ((k : Nat) : Int))]) (fun k : Nat => k ≤ (e.ids).length ∧ (∀ j y, j < k → e.ids[j]? = some y → (!idB y) = false)) (fun k : Nat => (e.ids).length - k) 0 (⟨Nat.zero_le _, fun j y hj => absurd hj (by omega)⟩) ⟨ke rfl, trivial⟩ ?_)
 rintro k ⟨hle_k, hinv_k⟩
 refine ac ?_
 refine Tr.seq ?_
 refine Tr.cn rfl ?_ ?_ <;> intro h10 q10
 have hk_k : k < (e.ids).length := lt_of_dec h10
 obtain ⟨x, hx_k⟩ := at_ hk_k
 have hxf := hf.ids x (List.mem_of_getElem? hx_k)
 refine ac ?_
 refine Tr.seq (Tr.block (Tr.seq (Tr.regT (tp rfl (ok_indexAddr rfl Tryz.underlying33 sz47 (vl rfl) (vl rfl) (by omega) (by exact row_at (by assumption))) ?_))))
 refine tp rfl (ok_loadA rfl agg47 sz47 (vl rfl) rfl rfl) ?_
 refine TO.alloc rfl rfl (by decide) rfl z47 zo47 (fun b1 => ?_)
 refine sf 0 4 ⟨rfl, rfl, rfl⟩ rfl rfl rfl rfl ?_
 refine ao ?_
 refine ac ?_
 refine co rfl (kc3 (w_Shows hxf) rfl rfl rfl rfl) ?_
 refine ac ?_
 refine wk5 1 56 57 58 69 rfl ?_
 refine Tr.cn rfl ?_ ?_ <;> intro h11 q11
 refine ac ?_
 refine ac ?_
 · refine int_eq ?_; unfold eptB; rw [all_hit (p := idB) hx_k (by unfold idB; simp_all)]; simp
 refine ac ?_
 refine ac ?_
 exact Fin.fam_same (k + 1) ⟨⟨hk_k, step_no (p := fun c => !idB c) hx_k (by unfold idB; simp_all) hinv_k⟩, by omega⟩ ⟨⟨_, rfl, int_succ k⟩, ke rfl, ke rfl, ke rfl, trivial⟩
 have he_k : k = (e.ids).length := by have := ge_of_dec h10; omega
 subst he_k
 have hall := all_end hinv_k
 refine ac ?_
 refine ac ?_
 refine Tr.seq (Tr.seq (Tr.re 5 rfl (fn_le_clo (dom := fun p : Int → Bool => [clo Tryz.prog (fun x : Int => [int x]) (fun x => bool (p x))]) (res := fun p => clo Tryz.prog (fun x : Int => [int x]) (fun x => bool (!p x))) e_EC1 (fun p => w_EC1 (p := p))) ?_))
 refine ac ?_
 refine co rfl (ok_callc keyB rfl (vl rfl) ⟨⟨_, rfl, fn_le_clo (dom := fun n : Int => [int n]) (res := fun n => bool (keyB n)) e_CKey (fun n => w_CKey (n := n))⟩, trivial⟩) ?_
 refine co rfl (kc2 (w_ContainsFuncI (l := e.anchors) (p := fun n => !keyB n)) rfl rfl rfl) ?_
 refine cm rfl ?_
 refine Ch.cs 76 rfl ?_ ?_ <;> intro h12 q12
 refine ac ?_
 refine wk1 82 rfl ?_
 refine ac ?_
 refine ac ?_
 · refine int_eq ?_; unfold eptB; rw [if_neg]; intro hh; simp only [Bool.and_eq_true] at hh; have g1 := hh.1.2; have g2 := hh.2; clear hh hinv_k hf hall; simp only [any_not, g1, g2, Bool.not_true, Bool.false_eq_true] at *
 refine ac ?_
 refine cy h12 rfl (ok_callc hashB rfl (vl rfl) ⟨⟨_, rfl, fn_le_clo (dom := fun n : Int => [int n]) (res := fun n => bool (hashB n)) e_hash (fun n => w_hash (n := n))⟩, trivial⟩) ?_
 refine cy h12 rfl (kc2 (w_ContainsFuncI (l := e.hashes) (p := fun n => !hashB n)) rfl rfl rfl) ?_
 refine ac ?_
 refine wk1 82 rfl ?_
 refine Tr.cn rfl ?_ ?_ <;> intro h13 q13
 refine ac ?_
 refine ac ?_
 · refine int_eq ?_; unfold eptB; rw [if_neg]; intro hh; simp only [Bool.and_eq_true] at hh; have g1 := hh.1.2; have g2 := hh.2; clear hh hinv_k hf hall; simp only [any_not, g1, g2, Bool.not_true, Bool.false_eq_true] at *
 refine ac ?_
 refine ac ?_
 refine ac ?_
 · refine int_eq ?_; unfold eptB; simp_all; omega
end Go.Proofs.YtflodcidhlmaaaaGreat
namespace Go.Proofs.YtflodcidhlmaaaaGreat
open Go Go.RowKit Cp
theorem len_pos' {β γ : Type} {f : β → γ} {l : List β} (h : l ≠ []) : 0 < (l.map f).length := by rw [List.length_map]; exact List.length_pos_iff.2 h
theorem w_CloneNi {l : List (Int)} (h0 : l ≠ []) (hl : l.length ≤ 1000000) : FunM Tryz.prog 136 [slice 1 (l.map (fun n : Int => [int n]))] (lens (l.map (fun n : Int => [int n])).length) (noRes) (fun v => mutRes 3 1 (l.map (fun n : Int => [int n])) v) := by
 refine FunM.of Tryz.func136 rfl rfl (by exact Nat.le_of_ble_eq_true rfl) fun M0 w0 S rs M1 w1 => ?_
 have hpos := len_pos' (f := (fun n : Int => [int n])) h0
 refine ac ?_
 refine ac ?_
 refine co rfl (ok_eqnil rfl Tryz.underlying22 (vl rfl)) ?_
 refine ac ?_
 refine Tr.ex 4 rfl (fun z1 => Tr.fact 4 rfl fun hz1 => ?_)
 refine Tr.cn rfl ?_ ?_ <;> intro h1 q1
 exfalso; have := hz1 h1; simp_all
 refine ac ?_
 refine ap ?_
 refine TO.pad ?_
 refine TO.efs 0 rfl rfl (by decide) (ef_appvoid rfl rfl (by decide) rfl Tryz.underlying22 sz3 by3 z3 rfl (by decide) (by decide) (vl rfl) (vl rfl) hpos (by rw [List.length_map]; unfold maxLen; omega) (by rw [List.length_map]; omega)) (fun v1 => ?_)
 refine ap ?_
 refine Tr.ret (Fin.drop 1 ?_)
 refine Fin.retM1 rfl rfl ?_ (by intro _ _ _ h; rw [h.1])
 · exact andIs_le _ _
theorem w_CloneEi   : Fun Tryz.prog 136 [slice 1 []] (full 1 []) := by
 refine fo Tryz.func136 rfl ⟨rfl, rfl⟩ fun M0 w0 => ?_
 refine ac ?_
 refine ac ?_
 refine co rfl (ok_eqnil rfl Tryz.underlying22 (vl rfl)) ?_
 refine ac ?_
 refine Tr.ex 4 rfl (fun z1 => Tr.fact 4 rfl fun hz1 => ?_)
 refine Tr.cn rfl ?_ ?_ <;> intro h1 q1
 refine ac ?_
 refine ac ?_
 · exact nil_full 1
 refine ac ?_
 refine ac ?_
 refine co rfl (ok_appEE rfl Tryz.underlying22 sz3 (vl rfl) (vl rfl)) ?_
 refine ac ?_
 refine ac ?_
 · exact Pr.le_refl _
theorem w_CloneFi {l : List (Int)} (hl : l.length ≤ 1000000) : Fun Tryz.prog 136 [slice 1 (l.map (fun n : Int => [int n]))] (slice 1 (l.map (fun n : Int => [int n]))) := by
  by_cases h0 : l = []
  · subst h0; exact Fun.le w_CloneEi (fun _ _ _ h => h) (full_le _ _)
  · exact (FunM.frzN (rows := (l.map (fun n : Int => [int n]))) (map_rows fun _ => rfl) (w_CloneNi h0 hl)).pure
theorem w_CloneNn {l : List (Idn)} (h0 : l ≠ []) (hl : l.length ≤ 1000000) : FunM Tryz.prog 137 [slice 4 (l.map rowId)] (lens (l.map rowId).length) (noRes) (fun v => mutRes 47 4 (l.map rowId) v) := by
 refine FunM.of Tryz.func137 rfl rfl (by exact Nat.le_of_ble_eq_true rfl) fun M0 w0 S rs M1 w1 => ?_
 have hpos := len_pos' (f := rowId) h0
 refine ac ?_
 refine ac ?_
 refine co rfl (ok_eqnil rfl Tryz.underlying33 (vl rfl)) ?_
 refine ac ?_
 refine Tr.ex 4 rfl (fun z1 => Tr.fact 4 rfl fun hz1 => ?_)
 refine Tr.cn rfl ?_ ?_ <;> intro h1 q1
 exfalso; have := hz1 h1; simp_all
 refine ac ?_
 refine ap ?_
 refine TO.pad ?_
 refine TO.efs 0 rfl rfl (by decide) (ef_appvoid rfl rfl (by decide) rfl Tryz.underlying33 sz47 by47 z47 rfl (by decide) (by decide) (vl rfl) (vl rfl) hpos (by rw [List.length_map]; unfold maxLen; omega) (by rw [List.length_map]; omega)) (fun v1 => ?_)
 refine ap ?_
 refine Tr.ret (Fin.drop 1 ?_)
 refine Fin.retM1 rfl rfl ?_ (by intro _ _ _ h; rw [h.1])
 · exact andIs_le _ _
theorem w_CloneEn   : Fun Tryz.prog 137 [slice 4 []] (full 4 []) := by
 refine fo Tryz.func137 rfl ⟨rfl, rfl⟩ fun M0 w0 => ?_
 refine ac ?_
 refine ac ?_
 refine co rfl (ok_eqnil rfl Tryz.underlying33 (vl rfl)) ?_
 refine ac ?_
 refine Tr.ex 4 rfl (fun z1 => Tr.fact 4 rfl fun hz1 => ?_)
 refine Tr.cn rfl ?_ ?_ <;> intro h1 q1
 refine ac ?_
 refine ac ?_
 · exact nil_full 4
 refine ac ?_
 refine ac ?_
 refine co rfl (ok_appEE rfl Tryz.underlying33 sz47 (vl rfl) (vl rfl)) ?_
 refine ac ?_
 refine ac ?_
 · exact Pr.le_refl _
theorem w_CloneWn {l : List (Idn)} (hl : l.length ≤ 1000000) : FunM Tryz.prog 137 [slice 4 (l.map rowId)] (lens l.length) noRes (fun v => oweRes 47 4 (l.map rowId) v) := by
  by_cases h0 : l = []
  · subst h0; exact FunM.owe_void w_CloneEn
  · have := FunM.owe_of_mut (by intro h; exact h0 (by simpa using h)) (w_CloneNn h0 hl)
    rwa [List.length_map] at this

theorem w_CloneNc {l : List (Crt)} (h0 : l ≠ []) (hl : l.length ≤ 1000000) : FunM Tryz.prog 173 [slice 15 (l.map rowCr)] (lens (l.map rowCr).length) (noRes) (fun v => mutRes 126 15 (l.map rowCr) v) := by
 refine FunM.of Tryz.func173 rfl rfl (by exact Nat.le_of_ble_eq_true rfl) fun M0 w0 S rs M1 w1 => ?_
 have hpos := len_pos' (f := rowCr) h0
 refine ac ?_
 refine ac ?_
 refine co rfl (ok_eqnil rfl Tryz.underlying45 (vl rfl)) ?_
 refine ac ?_
 refine Tr.ex 4 rfl (fun z1 => Tr.fact 4 rfl fun hz1 => ?_)
 refine Tr.cn rfl ?_ ?_ <;> intro h1 q1
 exfalso; have := hz1 h1; simp_all
 refine ac ?_
 refine ap ?_
 refine TO.pad ?_
 refine TO.efs 0 rfl rfl (by decide) (ef_appvoid rfl rfl (by decide) rfl Tryz.underlying45 sz126 by126 z126 rfl (by decide) (by decide) (vl rfl) (vl rfl) hpos (by rw [List.length_map]; unfold maxLen; omega) (by rw [List.length_map]; omega)) (fun v1 => ?_)
 refine ap ?_
 refine Tr.ret (Fin.drop 1 ?_)
 refine Fin.retM1 rfl rfl ?_ (by intro _ _ _ h; rw [h.1])
 · exact andIs_le _ _
theorem w_CloneEc   : Fun Tryz.prog 173 [slice 15 []] (full 15 []) := by
 refine fo Tryz.func173 rfl ⟨rfl, rfl⟩ fun M0 w0 => ?_
 refine ac ?_
 refine ac ?_
 refine co rfl (ok_eqnil rfl Tryz.underlying45 (vl rfl)) ?_
 refine ac ?_
 refine Tr.ex 4 rfl (fun z1 => Tr.fact 4 rfl fun hz1 => ?_)
 refine Tr.cn rfl ?_ ?_ <;> intro h1 q1
 refine ac ?_
 refine ac ?_
 · exact nil_full 15
 refine ac ?_
 refine ac ?_
 refine co rfl (ok_appEE rfl Tryz.underlying45 sz126 (vl rfl) (vl rfl)) ?_
 refine ac ?_
 refine ac ?_
 · exact Pr.le_refl _
theorem w_CloneWc {l : List (Crt)} (hl : l.length ≤ 1000000) : FunM Tryz.prog 173 [slice 15 (l.map rowCr)] (lens l.length) noRes (fun v => oweRes 126 15 (l.map rowCr) v) := by
  by_cases h0 : l = []
  · subst h0; exact FunM.owe_void w_CloneEc
  · have := FunM.owe_of_mut (by intro h; exact h0 (by simpa using h)) (w_CloneNc h0 hl)
    rwa [List.length_map] at this

theorem w_CloneNs {l : List (List UInt8)} (h0 : l ≠ []) (hl : l.length ≤ 1000000) : FunM Tryz.prog 174 [slice 1 (l.map (fun t : List UInt8 => [str t]))] (lens (l.map (fun t : List UInt8 => [str t])).length) (noRes) (fun v => mutRes 9 1 (l.map (fun t : List UInt8 => [str t])) v) := by
 refine FunM.of Tryz.func174 rfl rfl (by exact Nat.le_of_ble_eq_true rfl) fun M0 w0 S rs M1 w1 => ?_
 have hpos := len_pos' (f := (fun t : List UInt8 => [str t])) h0
 refine ac ?_
 refine ac ?_
 refine co rfl (ok_eqnil rfl Tryz.underlying83 (vl rfl)) ?_
 refine ac ?_
 refine Tr.ex 4 rfl (fun z1 => Tr.fact 4 rfl fun hz1 => ?_)
 refine Tr.cn rfl ?_ ?_ <;> intro h1 q1
 exfalso; have := hz1 h1; simp_all
 refine ac ?_
 refine ap ?_
 refine TO.pad ?_
 refine TO.efs 0 rfl rfl (by decide) (ef_appvoid rfl rfl (by decide) rfl Tryz.underlying83 sz9 by9 z9 rfl (by decide) (by decide) (vl rfl) (vl rfl) hpos (by rw [List.length_map]; unfold maxLen; omega) (by rw [List.length_map]; omega)) (fun v1 => ?_)
 refine ap ?_
 refine Tr.ret (Fin.drop 1 ?_)
 refine Fin.retM1 rfl rfl ?_ (by intro _ _ _ h; rw [h.1])
 · exact andIs_le _ _
theorem w_CloneEs   : Fun Tryz.prog 174 [slice 1 []] (full 1 []) := by
 refine fo Tryz.func174 rfl ⟨rfl, rfl⟩ fun M0 w0 => ?_
 refine ac ?_
 refine ac ?_
 refine co rfl (ok_eqnil rfl Tryz.underlying83 (vl rfl)) ?_
 refine ac ?_
 refine Tr.ex 4 rfl (fun z1 => Tr.fact 4 rfl fun hz1 => ?_)
 refine Tr.cn rfl ?_ ?_ <;> intro h1 q1
 refine ac ?_
 refine ac ?_
 · exact nil_full 1
 refine ac ?_
 refine ac ?_
 refine co rfl (ok_appEE rfl Tryz.underlying83 sz9 (vl rfl) (vl rfl)) ?_
 refine ac ?_
 refine ac ?_
 · exact Pr.le_refl _
theorem w_CloneFs {l : List (List UInt8)} (hl : l.length ≤ 1000000) : Fun Tryz.prog 174 [slice 1 (l.map (fun t : List UInt8 => [str t]))] (slice 1 (l.map (fun t : List UInt8 => [str t]))) := by
  by_cases h0 : l = []
  · subst h0; exact Fun.le w_CloneEs (fun _ _ _ h => h) (full_le _ _)
  · exact (FunM.frzN (rows := (l.map (fun t : List UInt8 => [str t]))) (map_rows fun _ => rfl) (w_CloneNs h0 hl)).pure
end Go.Proofs.YtflodcidhlmaaaaGreat
namespace Go.Proofs.YtflodcidhlmaaaaGreat
open Go Go.RowKit Cp
end Go.Proofs.YtflodcidhlmaaaaGreat
namespace Go.Proofs.YtflodcidhlmaaaaGreat
open Go Go.RowKit Cp

/-- Its lists are of some length. -/
structure Idn.small (x : Idn) : Prop where
  chain : x.chain.length ≤ 1000000
  names : ∀ c ∈ x.chain, c.names.length ≤ 1000000

theorem w_copyId {x : Idn} (hx : x.small) : Fun Tryz.prog 138 [agg (rowId x)] (agg (rowId x)) := by
 refine fo Tryz.func138 rfl ⟨rfl, rfl⟩ fun M0 w0 => ?_
 have hch := hx.chain
 refine Tr.seq (Tr.regT ?_)
 refine TO.boxm rfl rfl (by decide) rfl (VL.le (vl rfl) (agg_cellsP _)) (fun b1 => ?_)
 refine TO.alloc rfl rfl (by decide) rfl z47 zo47 (fun b2 => ?_)
 refine ao ?_
 refine ao ?_
 refine TO.pad ?_
 refine TO.efs 0 rfl rfl (by decide) (ef_call rfl rfl (by decide) rfl (w_CloneWc (l := x.chain) (by omega)) ⟨ke rfl, trivial⟩) (fun v1 => ?_)
 refine tp rfl (okp_fieldAddr rfl fo47_2 (vl rfl)) (TO.ef0 2 rfl rfl (ef_store rfl rfl (vl rfl) (VL.le (vl rfl) (one_cellsP _)) sz45 rfl (by exact Nat.le_of_ble_eq_true rfl) rfl) ?_)
 refine ao ?_
 refine ac ?_
 refine co rfl (ok_rd 0 rfl (rd_lenW rfl Tryz.underlying45 ⟨_, rfl, andIs_is _ _⟩)) ?_
 refine ac ?_
 refine Tr.block (Tr.re 11 rfl (int_eq (by rw [List.length_map])) (Tr.loopw [(1, _), (2, _), (10, _), (11, _)] (kk4 rfl) (fun k : Nat => [(12, int ((k : Nat) : Int))]) (fun k : Nat => k ≤ (x.chain).length) (fun k : Nat => (x.chain).length - k) 0 (Nat.zero_le _) ⟨ke rfl, trivial⟩ ?_))
 rintro k hle_k
 refine ac ?_
 refine Tr.seq ?_
 refine Tr.cn rfl ?_ ?_ <;> intro h1 q1
 have hk_k : k < (x.chain).length := lt_of_dec h1
 obtain ⟨c, hx_k⟩ := at_ hk_k
 have hcn := hx.names c (List.mem_of_getElem? hx_k)
 refine ac ?_
 refine ao ?_
 refine tp rfl (ok_rd 0 rfl (rd_elp rfl Tryz.underlying45 sz126 ⟨_, rfl, andIs_is _ _⟩ (vl rfl) (by omega) (by rw [List.length_map]; omega))) ?_
 refine tp rfl (ok_rd 0 rfl (rd_elload rfl agg126 sz126 (vl rfl) (map_rows fun _ => rfl) (by rw [Int.toNat_natCast, List.getElem?_map, hx_k]; rfl))) ?_
 refine TO.alloc rfl rfl (by decide) rfl z126 zo126 (fun b3 => ?_)
 refine tm rfl ?_
 refine sf 0 4 ⟨rfl, rfl, rfl⟩ rfl rfl rfl rfl ?_
 refine ao ?_
 refine Tr.rx ?_
 refine ax ?_
 refine xo rfl (fun _ => kc1 (w_CloneFs hcn) rfl rfl) ?_
 refine xrd 0 rfl rfl (rd_elp rfl Tryz.underlying45 sz126 ⟨_, rfl, andIs_is _ _⟩ (vl rfl) (by omega) (by rw [List.length_map]; omega)) ?_
 refine xo rfl (fun _ => ok_elfield rfl fo126_10 (vl rfl)) ?_
 refine Cx.ef0 0 rfl rfl (ef_elstore rfl rfl (vl rfl) (VL.le (vl rfl) (one_cellsP _)) sz83 rfl (map_rows fun _ => rfl) (by rw [Int.toNat_natCast, List.getElem?_map, hx_k]; rfl) (by decide) (row_setI (f := rowCr) hx_k rfl)) ?_
 refine Cx.nil ⟨by kernel_rfl, ?_⟩
 refine FinX.done al3 ?_
 refine ac ?_
 refine wk5 1 2 10 11 12 rfl ?_
 refine ac ?_
 exact Fin.fam_same (k + 1) ⟨hk_k, by omega⟩ ⟨⟨_, rfl, int_succ k⟩, ke rfl, ke rfl, ke rfl, ke rfl, trivial⟩
 have he_k : k = (x.chain).length := by have := ge_of_dec h1; omega
 subst he_k
 refine ac ?_
 refine Tr.seq (Tr.frzWC 2 0 3 rfl rfl (by decide) rfl (andIs_is _ _) (map_rows fun _ => rfl) ?_)
 refine ao ?_
 refine TO.store_all 1 rfl rfl rfl (vl rfl) (VL.le (vl rfl) (agg_cellsP _)) rfl sz47 rfl rfl ?_
 refine ao ?_
 refine Tr.drop 0 (Tr.drop 1 (Tr.ret (Fin.retX1 rfl (RVal.cell 0 rfl rfl agg47 sz47 rfl (Pr.le_refl _)) ?_)))
 · exact Pr.le_refl _
end Go.Proofs.YtflodcidhlmaaaaGreat
namespace Go.Proofs.YtflodcidhlmaaaaGreat
open Go Go.RowKit Cp

/-- A change. -/
structure Chg where
  endpoint : Int
  kind : Int
  number : Int
  at_ : Int
  idn : Idn
abbrev rowChg (c : Chg) : List Pr := [int c.endpoint, int c.kind, int c.number, int c.at_, int c.idn.alg, int c.idn.bits, int c.idn.keyId, certs c.idn.chain]
def keyIdx (key : Int) (l : List Idn) : Int := idx (fun x => x.keyId == key) l
theorem idx_hit {β : Type} {p : β → Bool} {l : List β} (h : 0 ≤ idx p l) : ∃ x, l[(idx p l).toNat]? = some x ∧ p x = true ∧ (idx p l).toNat < l.length := by
  unfold idx at *
  cases hf : l.findIdx? p with
  | none => rw [hf] at h; simp at h
  | some i =>
    rw [List.findIdx?_eq_some_iff_getElem] at hf
    obtain ⟨h1, h2, _⟩ := hf
    refine ⟨l[i], ?_, h2, by simpa using h1⟩
    simp

theorem FunD.perm {P : Program} {f : FuncId} {args : List Pr} {pre post post' : List Res} {res : Pr} (h : FunD P f args pre res post) (hp : post.Perm post') : FunD P f args pre res post' :=
  ⟨h.1, fun M0 w0 S rs M w vs hI hv => (h.2 M0 w0 S rs M w vs hI hv).mono fun _e _w' ⟨v, M', x, h1, h2, h3, h4, h5⟩ => ⟨v, M', x, h1, h2, h3, h4, HpH.perm (hp.append_right rs) h5⟩⟩

end Go.Proofs.YtflodcidhlmaaaaGreat
namespace Go.Proofs.YtflodcidhlmaaaaGreat
open Go Go.RowKit Cp

def noneB (x : Idn) : Bool := decide (x.alg = 0 ∧ x.bits = 0) && x.keyId == 0 && (((x.chain.length : Nat) : Int) == 0)
def leanB (c : Chg) : Bool := if c.kind = 1 then noneB c.idn else if c.kind = 5 then c.number == 0 else c.at_ == 0 && noneB c.idn
/-- Its lists are of some length. -/
structure Ept.small (e : Ept) : Prop where
  suites : e.suites.length ≤ 1000000
  anchors : e.anchors.length ≤ 1000000
  hashes : e.hashes.length ≤ 1000000
  idl : e.ids.length ≤ 1000000
  ids : ∀ x ∈ e.ids, x.small

end Go.Proofs.YtflodcidhlmaaaaGreat
namespace Go.Proofs.YtflodcidhlmaaaaGreat
open Go Go.RowKit Cp

def zeroEp : Ept := ⟨[], 0, 0, [], false, [], [], [], false⟩
def zeroId : Idn := ⟨0, 0, 0, []⟩
def zeroChg : Chg := ⟨0, 0, 0, 0, zeroId⟩
end Go.Proofs.YtflodcidhlmaaaaGreat
namespace Go.Proofs.YtflodcidhlmaaaaGreat
open Go Go.RowKit Cp

abbrev AscI (l : List Int) : Prop := l.Pairwise (· < ·)
/-- How many are before x. -/
def posI (l : List Int) (x : Int) : Nat := (l.takeWhile fun y => decide (y < x)).length
theorem posI_le (l : List Int) (x : Int) : posI l x ≤ l.length := by
  unfold posI
  have h := List.takeWhile_append_dropWhile (p := fun y => decide (y < x)) (l := l)
  have := congrArg List.length h
  rw [List.length_append] at this; omega
theorem posI_eq {x : Int} : ∀ {l : List Int} {k : Nat}, k ≤ l.length → (∀ (j : Nat) y, j < k → l[j]? = some y → y < x) → (∀ y, l[k]? = some y → ¬ y < x) → posI l x = k
  | [], k, hk, _, _ => by have : k = 0 := by simpa using hk
                          subst this; rfl
  | y :: r, 0, _, _, h2 => by unfold posI; rw [List.takeWhile_cons_of_neg (by simpa using h2 y rfl)]; rfl
  | y :: r, k + 1, hk, h1, h2 => by
    have ih := posI_eq (l := r) (k := k) (by simpa using hk) (fun j z hj hz => h1 (j + 1) z (by omega) (by simpa using hz)) (fun z hz => h2 z (by simpa using hz))
    unfold posI at ih ⊢
    rw [List.takeWhile_cons_of_pos (by simpa using h1 0 y (by omega) rfl), List.length_cons, ih]
theorem posI_lt {x : Int} : ∀ {l : List Int} {j : Nat} {y : Int}, j < posI l x → l[j]? = some y → y < x
  | [], j, y, h, _ => by unfold posI at h; simp at h
  | z :: r, j, y, h, hy => by
    by_cases hz : z < x
    · cases j with
      | zero => simp at hy; subst hy; exact hz
      | succ j =>
        refine posI_lt (l := r) (j := j) ?_ (by simpa using hy)
        unfold posI at h ⊢
        rw [List.takeWhile_cons_of_pos (by simpa using hz), List.length_cons] at h; omega
    · unfold posI at h; rw [List.takeWhile_cons_of_neg (by simpa using hz)] at h; simp at h
theorem posI_ge {x : Int} : ∀ {l : List Int} {y : Int}, l[posI l x]? = some y → ¬ y < x
  | [], y, h => by simp at h
  | z :: r, y, h => by
    by_cases hz : z < x
    · unfold posI at h
      rw [List.takeWhile_cons_of_pos (by simpa using hz), List.length_cons, List.getElem?_cons_succ] at h
      exact posI_ge (l := r) h
    · unfold posI at h; rw [List.takeWhile_cons_of_neg (by simpa using hz)] at h; simp at h; subst h; exact hz
abbrev hasX (l : List Int) (x : Int) : Bool := (l[posI l x]?).any (fun y => decide (y = x))
abbrev insX (l : List Int) (x : Int) : List Int := l.take (posI l x) ++ [x] ++ l.drop (posI l x)
theorem ascI_lt {l : List Int} (hs : AscI l) {j k : Nat} {y z : Int} (hjk : j < k) (hy : l[j]? = some y) (hz : l[k]? = some z) : y < z := by
  have h1 := lt_of_at hy; have h2 := lt_of_at hz
  have := List.pairwise_iff_getElem.1 hs j k h1 h2 hjk
  rw [List.getElem?_eq_getElem h1] at hy; rw [List.getElem?_eq_getElem h2] at hz
  cases hy; cases hz; exact this
theorem hasX_at {l : List Int} {x : Int} {i : Nat} {y : Int} (hp : posI l x = i) (hy : l[i]? = some y) : hasX l x = decide (y = x) := by
  unfold hasX; rw [hp, hy]; rfl
theorem ascI_of {l : List Int} (h : ascB l = true) : AscI l := by
  unfold ascB at h; rw [allI_iff] at h
  have h1 : ∀ (d i : Nat) y z, l[i]? = some y → l[i + d + 1]? = some z → y < z := by
    intro d
    induction d with
    | zero =>
      intro i y z hy hz
      have := h (i + 1) (lt_of_at hz)
      unfold ascAt at this
      rw [getD_at (show l[i + 1]? = some z from hz), getD_at (show l[i + 1 - 1]? = some y from hy)] at this
      simpa using this
    | succ d ih =>
      intro i y z hy hz
      obtain ⟨m, hm⟩ := at_ (l := l) (k := i + d + 1) (by have := lt_of_at hz; omega)
      have a1 := ih i y m hy hm
      have := h (i + (d + 1) + 1) (lt_of_at hz)
      unfold ascAt at this
      rw [getD_at hz, getD_at (show l[i + (d + 1) + 1 - 1]? = some m from hm)] at this
      have : m < z := by simpa using this
      omega
  refine List.pairwise_iff_getElem.2 fun i j hi hj hij => ?_
  refine h1 (j - i - 1) i _ _ (List.getElem?_eq_getElem hi) ?_
  rw [show i + (j - i - 1) + 1 = j by omega]; exact List.getElem?_eq_getElem hj

end Go.Proofs.YtflodcidhlmaaaaGreat
namespace Go.Proofs.YtflodcidhlmaaaaGreat
open Go Go.RowKit Cp
theorem hasX_lt {l : List Int} {x : Int} (h : hasX l x = true) : posI l x < l.length := by
  by_cases hp : posI l x < l.length
  · exact hp
  · unfold hasX at h; rw [List.getElem?_eq_none (by omega)] at h; cases h
abbrev bitI (b : Bool) : Int := if b then 1 else 0
end Go.Proofs.YtflodcidhlmaaaaGreat
namespace Go.Proofs.YtflodcidhlmaaaaGreat
open Go Go.RowKit Cp
theorem w_CopyEz {e : Ept} (hsm : e.small) : Fun Tryz.prog 96 [agg (rowEp e)] (agg (rowEp e)) := by
 refine fo Tryz.func96 rfl ⟨rfl, rfl⟩ fun M0 w0 => ?_
 have hs1 := hsm.suites
 have hs2 := hsm.anchors
 have hs3 := hsm.hashes
 have hs4 := hsm.idl
 refine Tr.seq (Tr.regT ?_)
 refine TO.boxm rfl rfl (by decide) rfl (VL.le (vl rfl) (agg_cellsP _)) (fun b1 => ?_)
 refine TO.alloc rfl rfl (by decide) rfl z35 zo35 (fun b2 => ?_)
 refine ao ?_
 refine Tr.seq (Tr.pad (Tr.rx ?_))
 refine ax ?_
 refine xo rfl (fun _ => kc1 (w_CloneFi (l := e.suites) hs1) rfl rfl) ?_
 refine ax ?_
 refine xo rfl (fun _ => kc1 (w_CloneFi (l := e.anchors) hs2) rfl rfl) ?_
 refine ax ?_
 refine xo rfl (fun _ => kc1 (w_CloneFi (l := e.hashes) hs3) rfl rfl) ?_
 refine ax ?_
 refine Cx.ef 0 rfl rfl (by decide) (ef_call rfl rfl (by decide) rfl (w_CloneWn (l := e.ids) hs4) ⟨ke rfl, trivial⟩) ?_
 refine xo rfl (fun _ => okp_fieldAddr rfl fo35_3 (vl rfl)) (Cx.ef0 2 rfl rfl (ef_store rfl rfl (vl rfl) (VL.le (vl rfl) (one_cellsP _)) sz22 rfl (by exact Nat.le_of_ble_eq_true rfl) rfl) (xo rfl (fun _ => okp_fieldAddr rfl fo35_6 (vl rfl)) (Cx.ef0 2 rfl rfl (ef_store rfl rfl (vl rfl) (VL.le (vl rfl) (one_cellsP _)) sz22 rfl (by exact Nat.le_of_ble_eq_true rfl) rfl) (xo rfl (fun _ => okp_fieldAddr rfl fo35_7 (vl rfl)) (Cx.ef0 2 rfl rfl (ef_store rfl rfl (vl rfl) (VL.le (vl rfl) (one_cellsP _)) sz22 rfl (by exact Nat.le_of_ble_eq_true rfl) rfl) (xo rfl (fun _ => okp_fieldAddr rfl fo35_5 (vl rfl)) (Cx.ef0 2 rfl rfl (ef_storeS rfl rfl rfl (vl rfl) rfl sz33 (by exact Nat.le_of_ble_eq_true rfl)) ?_)))))))
 refine Cx.nil ⟨by kernel_rfl, ?_⟩
 refine FinX.open2 0 2 16 rfl rfl (by decide) rfl (fun v1 => ?_)
 refine FinX.done al3 (Fin.go (wk2 1 2 rfl ?_))
 refine ac ?_
 refine co rfl (ok_rd 0 rfl (rd_lenW rfl Tryz.underlying33 ⟨_, rfl, andIs_is _ _⟩)) ?_
 refine ac ?_
 refine Tr.block (Tr.re 23 rfl (int_eq (by rw [List.length_map])) (Tr.loopw [(1, _), (2, _), (22, _), (23, _)] (kk4 rfl) (fun k : Nat => [(24, int ((k : Nat) : Int))]) (fun k : Nat => k ≤ (e.ids).length) (fun k : Nat => (e.ids).length - k) 0 (Nat.zero_le _) ⟨ke rfl, trivial⟩ ?_))
 rintro k hle_k
 refine ac ?_
 refine Tr.seq ?_
 refine Tr.cn rfl ?_ ?_ <;> intro h1 q1
 have hk_k : k < (e.ids).length := lt_of_dec h1
 obtain ⟨x, hx_k⟩ := at_ hk_k
 have hxs := hsm.ids x (List.mem_of_getElem? hx_k)
 refine ac ?_
 refine ao ?_
 refine tp rfl (ok_rd 0 rfl (rd_elp rfl Tryz.underlying33 sz47 ⟨_, rfl, andIs_is _ _⟩ (vl rfl) (by omega) (by rw [List.length_map]; omega))) ?_
 refine tp rfl (ok_rd 0 rfl (rd_elload rfl agg47 sz47 (vl rfl) (map_rows fun _ => rfl) (by rw [Int.toNat_natCast, List.getElem?_map, hx_k]; rfl))) ?_
 refine TO.alloc rfl rfl (by decide) rfl z47 zo47 (fun b3 => ?_)
 refine tm rfl ?_
 refine sf 0 4 ⟨rfl, rfl, rfl⟩ rfl rfl rfl rfl ?_
 refine ao ?_
 refine Tr.rx ?_
 refine ax ?_
 refine xo rfl (fun _ => kc1 (w_copyId hxs) rfl rfl) ?_
 refine xrd 0 rfl rfl (rd_elp rfl Tryz.underlying33 sz47 ⟨_, rfl, andIs_is _ _⟩ (vl rfl) (by omega) (by rw [List.length_map]; omega)) ?_
 refine Cx.ef0 0 rfl rfl (ef_elstore rfl rfl (vl rfl) (VL.le (vl rfl) (agg_cellsP _)) sz47 rfl (map_rows fun _ => rfl) (by rw [Int.toNat_natCast, List.getElem?_map, hx_k]; rfl) (by decide) (row_setI (f := rowId) (q := 0) (m := 4) hx_k rfl)) ?_
 refine Cx.nil ⟨by kernel_rfl, ?_⟩
 refine FinX.done al3 ?_
 refine ac ?_
 refine wk5 1 2 22 23 24 rfl ?_
 refine ac ?_
 exact Fin.fam_same (k + 1) ⟨hk_k, by omega⟩ ⟨⟨_, rfl, int_succ k⟩, ke rfl, ke rfl, ke rfl, ke rfl, trivial⟩
 have he_k : k = (e.ids).length := by have := ge_of_dec h1; omega
 subst he_k
 refine ac ?_
 refine Tr.seq (Tr.frzWC 2 0 5 rfl rfl (by decide) rfl (andIs_is _ _) (map_rows fun _ => rfl) ?_)
 refine ao ?_
 refine TO.store_all 1 rfl rfl rfl (vl rfl) (VL.le (vl rfl) (agg_cellsP _)) rfl sz35 rfl rfl ?_
 refine ao ?_
 refine Tr.drop 0 (Tr.drop 1 (Tr.ret (Fin.retX1 rfl (RVal.cell 0 rfl rfl agg35 sz35 rfl (Pr.le_refl _)) ?_)))
 · exact Pr.le_refl _
end Go.Proofs.YtflodcidhlmaaaaGreat
namespace Go.Proofs.YtflodcidhlmaaaaGreat
open Go Go.RowKit Cp
end Go.Proofs.YtflodcidhlmaaaaGreat
namespace Go.Proofs.YtflodcidhlmaaaaGreat
open Go Go.RowKit Cp

abbrev sIdx (e : Ept) (c : Chg) : Int := idx (fun y => c.number == y) e.suites
/-- What the method of a kind answers: an error, or the endpoint and what leads back. -/
def stepR (e : Ept) (c : Chg) : Except Int (Ept × Chg) :=
  if c.kind = 1 then
    if ¬ (0 ≤ c.at_ ∧ c.at_ ≤ (e.suites.length : Nat)) then .error 2
    else if (e.suites.any fun y => c.number == y) = true then .error 41
    else .ok ({ e with suites := e.suites.take c.at_.toNat ++ [c.number] ++ e.suites.drop c.at_.toNat }, ⟨c.endpoint, 2, c.number, 0, zeroId⟩)
  else if c.kind = 2 then
    if sIdx e c < 0 then .error 41 else .ok ({ e with suites := e.suites.eraseIdx (sIdx e c).toNat }, ⟨c.endpoint, 1, c.number, sIdx e c, zeroId⟩)
  else if c.kind = 3 then
    if e.most = c.number then .error 41 else .ok ({ e with most := c.number }, ⟨c.endpoint, c.kind, e.most, 0, zeroId⟩)
  else if c.kind = 4 then
    if e.least = c.number then .error 41 else .ok ({ e with least := c.number }, ⟨c.endpoint, c.kind, e.least, 0, zeroId⟩)
  else if c.kind = 5 then
    if ¬ (0 ≤ c.at_ ∧ c.at_ ≤ (e.ids.length : Nat)) then .error 2
    else if 0 ≤ keyIdx c.idn.keyId e.ids then .error 41
    else .ok ({ e with ids := e.ids.take c.at_.toNat ++ [c.idn] ++ e.ids.drop c.at_.toNat }, ⟨c.endpoint, 6, c.idn.keyId, 0, zeroId⟩)
  else if c.kind = 6 then
    match e.ids[(keyIdx c.number e.ids).toNat]? with
    | none => .error 41
    | some x =>
      if keyIdx c.number e.ids < 0 then .error 41
      else if ((e.ids.drop (keyIdx c.number e.ids + 1).toNat).any fun x => x.keyId == c.number) = true then .error 5
      else .ok ({ e with ids := e.ids.eraseIdx (keyIdx c.number e.ids).toNat }, ⟨c.endpoint, 5, 0, keyIdx c.number e.ids, x⟩)
  else if c.kind = 7 then
    if hasX e.anchors c.number = true then .error 41 else .ok ({ e with anchors := insX e.anchors c.number }, ⟨c.endpoint, 8, c.number, 0, zeroId⟩)
  else if c.kind = 8 then
    if hasX e.anchors c.number = true then .ok ({ e with anchors := e.anchors.eraseIdx (posI e.anchors c.number) }, ⟨c.endpoint, 7, c.number, 0, zeroId⟩) else .error 41
  else if c.kind = 9 then
    if hasX e.hashes c.number = true then .error 41 else .ok ({ e with hashes := insX e.hashes c.number }, ⟨c.endpoint, 10, c.number, 0, zeroId⟩)
  else if c.kind = 10 then
    if hasX e.hashes c.number = true then .ok ({ e with hashes := e.hashes.eraseIdx (posI e.hashes c.number) }, ⟨c.endpoint, 9, c.number, 0, zeroId⟩) else .error 41
  else if c.kind = 11 then
    if ¬ (0 ≤ c.number ∧ c.number ≤ 1) then .error 2
    else if bitI e.fall = c.number then .error 41 else .ok ({ e with fall := (c.number == 1) }, ⟨c.endpoint, c.kind, bitI e.fall, 0, zeroId⟩)
  else
    if ¬ (0 ≤ c.number ∧ c.number ≤ 1) then .error 2
    else if bitI e.own = c.number then .error 41 else .ok ({ e with own := (c.number == 1) }, ⟨c.endpoint, c.kind, bitI e.own, 0, zeroId⟩)
def okCh (c : Chg) : Prop := (1 ≤ c.kind ∧ c.kind ≤ 12) ∧ leanB c = true
instance (c : Chg) : Decidable (okCh c) := inferInstanceAs (Decidable (_ ∧ _))
def doneR (e : Ept) (c : Chg) : Ept × Chg × Int :=
  if eptB e = false then (zeroEp, zeroChg, 19)
  else if ¬ okCh c then (zeroEp, zeroChg, 40)
  else match stepR e c with
    | .error f => (zeroEp, zeroChg, f)
    | .ok (e2, b) => if eptB e2 = true then (e2, b, 0) else (zeroEp, zeroChg, 18)
theorem stepR_1 {e : Ept} {c : Chg} (h : c.kind = 1) : stepR e c =
    (
    if ¬ (0 ≤ c.at_ ∧ c.at_ ≤ (e.suites.length : Nat)) then .error 2
    else if (e.suites.any fun y => c.number == y) = true then .error 41
    else .ok ({ e with suites := e.suites.take c.at_.toNat ++ [c.number] ++ e.suites.drop c.at_.toNat }, ⟨c.endpoint, 2, c.number, 0, zeroId⟩)) := by
  unfold stepR; rw [if_pos h]
theorem stepR_2 {e : Ept} {c : Chg} (h : c.kind = 2) : stepR e c =
    (
    if sIdx e c < 0 then .error 41 else .ok ({ e with suites := e.suites.eraseIdx (sIdx e c).toNat }, ⟨c.endpoint, 1, c.number, sIdx e c, zeroId⟩)) := by
  unfold stepR; rw [if_neg (by rw [h]; decide)]; rw [if_pos h]
theorem stepR_3 {e : Ept} {c : Chg} (h : c.kind = 3) : stepR e c =
    (
    if e.most = c.number then .error 41 else .ok ({ e with most := c.number }, ⟨c.endpoint, c.kind, e.most, 0, zeroId⟩)) := by
  unfold stepR; rw [if_neg (by rw [h]; decide)]; rw [if_neg (by rw [h]; decide)]; rw [if_pos h]
theorem stepR_4 {e : Ept} {c : Chg} (h : c.kind = 4) : stepR e c =
    (
    if e.least = c.number then .error 41 else .ok ({ e with least := c.number }, ⟨c.endpoint, c.kind, e.least, 0, zeroId⟩)) := by
  unfold stepR; rw [if_neg (by rw [h]; decide)]; rw [if_neg (by rw [h]; decide)]; rw [if_neg (by rw [h]; decide)]; rw [if_pos h]
theorem stepR_5 {e : Ept} {c : Chg} (h : c.kind = 5) : stepR e c =
    (
    if ¬ (0 ≤ c.at_ ∧ c.at_ ≤ (e.ids.length : Nat)) then .error 2
    else if 0 ≤ keyIdx c.idn.keyId e.ids then .error 41
    else .ok ({ e with ids := e.ids.take c.at_.toNat ++ [c.idn] ++ e.ids.drop c.at_.toNat }, ⟨c.endpoint, 6, c.idn.keyId, 0, zeroId⟩)) := by
  unfold stepR; rw [if_neg (by rw [h]; decide)]; rw [if_neg (by rw [h]; decide)]; rw [if_neg (by rw [h]; decide)]; rw [if_neg (by rw [h]; decide)]; rw [if_pos h]
theorem stepR_6 {e : Ept} {c : Chg} (h : c.kind = 6) : stepR e c =
    (
    match e.ids[(keyIdx c.number e.ids).toNat]? with
    | none => .error 41
    | some x =>
      if keyIdx c.number e.ids < 0 then .error 41
      else if ((e.ids.drop (keyIdx c.number e.ids + 1).toNat).any fun x => x.keyId == c.number) = true then .error 5
      else .ok ({ e with ids := e.ids.eraseIdx (keyIdx c.number e.ids).toNat }, ⟨c.endpoint, 5, 0, keyIdx c.number e.ids, x⟩)) := by
  unfold stepR; rw [if_neg (by rw [h]; decide)]; rw [if_neg (by rw [h]; decide)]; rw [if_neg (by rw [h]; decide)]; rw [if_neg (by rw [h]; decide)]; rw [if_neg (by rw [h]; decide)]; rw [if_pos h]
theorem stepR_7 {e : Ept} {c : Chg} (h : c.kind = 7) : stepR e c =
    (
    if hasX e.anchors c.number = true then .error 41 else .ok ({ e with anchors := insX e.anchors c.number }, ⟨c.endpoint, 8, c.number, 0, zeroId⟩)) := by
  unfold stepR; rw [if_neg (by rw [h]; decide)]; rw [if_neg (by rw [h]; decide)]; rw [if_neg (by rw [h]; decide)]; rw [if_neg (by rw [h]; decide)]; rw [if_neg (by rw [h]; decide)]; rw [if_neg (by rw [h]; decide)]; rw [if_pos h]
theorem stepR_8 {e : Ept} {c : Chg} (h : c.kind = 8) : stepR e c =
    (
    if hasX e.anchors c.number = true then .ok ({ e with anchors := e.anchors.eraseIdx (posI e.anchors c.number) }, ⟨c.endpoint, 7, c.number, 0, zeroId⟩) else .error 41) := by
  unfold stepR; rw [if_neg (by rw [h]; decide)]; rw [if_neg (by rw [h]; decide)]; rw [if_neg (by rw [h]; decide)]; rw [if_neg (by rw [h]; decide)]; rw [if_neg (by rw [h]; decide)]; rw [if_neg (by rw [h]; decide)]; rw [if_neg (by rw [h]; decide)]; rw [if_pos h]
theorem stepR_9 {e : Ept} {c : Chg} (h : c.kind = 9) : stepR e c =
    (
    if hasX e.hashes c.number = true then .error 41 else .ok ({ e with hashes := insX e.hashes c.number }, ⟨c.endpoint, 10, c.number, 0, zeroId⟩)) := by
  unfold stepR; rw [if_neg (by rw [h]; decide)]; rw [if_neg (by rw [h]; decide)]; rw [if_neg (by rw [h]; decide)]; rw [if_neg (by rw [h]; decide)]; rw [if_neg (by rw [h]; decide)]; rw [if_neg (by rw [h]; decide)]; rw [if_neg (by rw [h]; decide)]; rw [if_neg (by rw [h]; decide)]; rw [if_pos h]
theorem stepR_10 {e : Ept} {c : Chg} (h : c.kind = 10) : stepR e c =
    (
    if hasX e.hashes c.number = true then .ok ({ e with hashes := e.hashes.eraseIdx (posI e.hashes c.number) }, ⟨c.endpoint, 9, c.number, 0, zeroId⟩) else .error 41) := by
  unfold stepR; rw [if_neg (by rw [h]; decide)]; rw [if_neg (by rw [h]; decide)]; rw [if_neg (by rw [h]; decide)]; rw [if_neg (by rw [h]; decide)]; rw [if_neg (by rw [h]; decide)]; rw [if_neg (by rw [h]; decide)]; rw [if_neg (by rw [h]; decide)]; rw [if_neg (by rw [h]; decide)]; rw [if_neg (by rw [h]; decide)]; rw [if_pos h]
theorem stepR_11 {e : Ept} {c : Chg} (h : c.kind = 11) : stepR e c =
    (
    if ¬ (0 ≤ c.number ∧ c.number ≤ 1) then .error 2
    else if bitI e.fall = c.number then .error 41 else .ok ({ e with fall := (c.number == 1) }, ⟨c.endpoint, c.kind, bitI e.fall, 0, zeroId⟩)) := by
  unfold stepR; rw [if_neg (by rw [h]; decide)]; rw [if_neg (by rw [h]; decide)]; rw [if_neg (by rw [h]; decide)]; rw [if_neg (by rw [h]; decide)]; rw [if_neg (by rw [h]; decide)]; rw [if_neg (by rw [h]; decide)]; rw [if_neg (by rw [h]; decide)]; rw [if_neg (by rw [h]; decide)]; rw [if_neg (by rw [h]; decide)]; rw [if_neg (by rw [h]; decide)]; rw [if_pos h]
theorem stepR_12 {e : Ept} {c : Chg} (h : c.kind = 12) : stepR e c =
    (
    if ¬ (0 ≤ c.number ∧ c.number ≤ 1) then .error 2
    else if bitI e.own = c.number then .error 41 else .ok ({ e with own := (c.number == 1) }, ⟨c.endpoint, c.kind, bitI e.own, 0, zeroId⟩)) := by
  unfold stepR; rw [if_neg (by rw [h]; decide)]; rw [if_neg (by rw [h]; decide)]; rw [if_neg (by rw [h]; decide)]; rw [if_neg (by rw [h]; decide)]; rw [if_neg (by rw [h]; decide)]; rw [if_neg (by rw [h]; decide)]; rw [if_neg (by rw [h]; decide)]; rw [if_neg (by rw [h]; decide)]; rw [if_neg (by rw [h]; decide)]; rw [if_neg (by rw [h]; decide)]; rw [if_neg (by rw [h]; decide)]
theorem doneR_err {e : Ept} {c : Chg} {f : Int} (h : eptB e = true) (hc : okCh c) (hs : stepR e c = .error f) : doneR e c = (zeroEp, zeroChg, f) := by
  unfold doneR; rw [if_neg (by rw [h]; decide), if_neg (fun h => h hc), hs]
theorem doneR_ok {e : Ept} {c : Chg} {e2 : Ept} {b : Chg} (h : eptB e = true) (hc : okCh c) (hs : stepR e c = .ok (e2, b)) (h2 : eptB e2 = true) : doneR e c = (e2, b, 0) := by
  unfold doneR; rw [if_neg (by rw [h]; decide), if_neg (fun h => h hc), hs]; exact if_pos h2
theorem doneR_v {e : Ept} {c : Chg} {e2 : Ept} {b : Chg} (h : eptB e = true) (hc : okCh c) (hs : stepR e c = .ok (e2, b)) (h2 : eptB e2 = false) : doneR e c = (zeroEp, zeroChg, 18) := by
  unfold doneR; rw [if_neg (by rw [h]; decide), if_neg (fun h => h hc), hs]; exact if_neg (by rw [h2]; decide)
structure EptOk (e : Ept) : Prop where
  name : wordB e.name = true
  least : 1 ≤ e.least
  lm : e.least ≤ e.most
  most : e.most ≤ 4
  suites : suitesB e.suites = true
  idl : e.ids.length ≤ 4
  ancl : e.anchors.length ≤ 16
  anc : ascB e.anchors = true
  hash : ascB e.hashes = true
  ids : e.ids.all idB = true
  keys : e.anchors.all keyB = true
  hsh : e.hashes.all hashB = true
theorem eptB_iff {e : Ept} : eptB e = true ↔ EptOk e := by
  unfold eptB; simp only [Bool.and_eq_true, decide_eq_true_eq]
  exact ⟨fun ⟨⟨⟨⟨⟨⟨⟨⟨a, b⟩, c⟩, d⟩, f⟩, ⟨⟨⟨g, h⟩, i⟩, j⟩⟩, k⟩, l⟩, m⟩ => ⟨a, b, c, d, f, g, h, i, j, k, l, m⟩, fun ⟨a, b, c, d, f, g, h, i, j, k, l, m⟩ => ⟨⟨⟨⟨⟨⟨⟨⟨a, b⟩, c⟩, d⟩, f⟩, ⟨⟨⟨g, h⟩, i⟩, j⟩⟩, k⟩, l⟩, m⟩⟩


theorem id0_small : zeroId.small := ⟨by show 0 ≤ _; omega, fun c hc => by cases hc⟩
end Go.Proofs.YtflodcidhlmaaaaGreat
namespace Go.Proofs.YtflodcidhlmaaaaGreat
open Go Go.RowKit Cp
theorem eqv124 {d : Nat} {w : World} {x0 y0 : Int} {x1 y1 : Int} : (Op.equalIn (d + 2) 124 (.agg #[.int .i64 x0, .int .i64 x1]) (.agg #[.int .i64 y0, .int .i64 y1])).run Tryz.prog w = .ok (decide (x0 = y0 ∧ x1 = y1)) w := by
  have h := eqS (w := w) (d := d + 1) (xs := #[.int .i64 x0, .int .i64 x1]) (ys := #[.int .i64 y0, .int .i64 y1]) Tryz.underlying124 (by kernel_rfl) (eqF_cons (by decide) (part_leaf one3 rfl) (part_leaf one3 rfl) (eq_intL (d := d + 0) Tryz.underlying3) (eqF_cons (by decide) (part_leaf one3 rfl) (part_leaf one3 rfl) (eq_intL (d := d + 0) Tryz.underlying3) (eqF_nil)))
  refine h.trans (congrArg (fun b => Result.ok b w) ?_)
  rw [Bool.eq_iff_iff]; simp [and_assoc]
theorem ok_eq124 {E : Env} {I : Asn} {o : Oper} {u : TypeId} {x y : Operand} {x0 y0 : Int} {x1 y1 : Int} (ho : o.op = .binOp .eql 124 x y u) (hx : VL E x (agg [is (.int .i64 x0), is (.int .i64 x1)])) (hy : VL E y (agg [is (.int .i64 y0), is (.int .i64 y1)])) : OpOK Tryz.prog I o E (bool (decide (x0 = y0 ∧ x1 = y1))) :=
  ok_eqagg [.int .i64 x0, .int .i64 x1] [.int .i64 y0, .int .i64 y1] ho hx hy (by kernel_rfl) (fun w => by rw [show Op.equal 124 _ _ = Op.equalIn (9998 + 2) 124 _ _ from rfl]; exact eqv124)
theorem ok_ne124 {E : Env} {I : Asn} {o : Oper} {u : TypeId} {x y : Operand} {x0 y0 : Int} {x1 y1 : Int} (ho : o.op = .binOp .neq 124 x y u) (hx : VL E x (agg [is (.int .i64 x0), is (.int .i64 x1)])) (hy : VL E y (agg [is (.int .i64 y0), is (.int .i64 y1)])) : OpOK Tryz.prog I o E (bool (!decide (x0 = y0 ∧ x1 = y1))) :=
  ok_neagg [.int .i64 x0, .int .i64 x1] [.int .i64 y0, .int .i64 y1] ho hx hy (by kernel_rfl) (fun w => by rw [show Op.equal 124 _ _ = Op.equalIn (9998 + 2) 124 _ _ from rfl]; exact eqv124)

deriving instance DecidableEq for Crt
deriving instance DecidableEq for Idn
deriving instance DecidableEq for Ept
deriving instance DecidableEq for Chg
theorem sameY {α : Type} {a b : List α} {k : Nat} {x y : α} (ha : a[k]? = some x) (hb : b[k]? = some y) (h : a.take k = b.take k) (e : x = y) : a.take (k + 1) = b.take (k + 1) := by
  rw [List.take_add_one, List.take_add_one, ha, hb, h, e]
theorem sameN {α : Type} {a b : List α} {k : Nat} {x y : α} (ha : a[k]? = some x) (hb : b[k]? = some y) (e : ¬ x = y) : ¬ a = b := by
  rintro rfl; rw [ha] at hb; cases hb; exact e rfl
theorem sameA {α : Type} {a b : List α} (hl : a.length = b.length) (h : a.take a.length = b.take a.length) : a = b := by
  rw [List.take_length, hl, List.take_length] at h; exact h

theorem w_SameInts {a b : List (Int)}  : Fun Tryz.prog 60 [ints a, ints b] (bool (decide (a = b))) := by
 refine fo Tryz.func60 rfl ⟨rfl, rfl⟩ fun M0 w0 => (Tr.lenm 0 rfl fun hlm_0 => (Tr.lenm 1 rfl fun hlm_1 => ?_))
 refine ac ?_
 refine ac ?_
 refine Tr.cn rfl ?_ ?_ <;> intro h1 q1
 have hne : ¬ a.length = b.length := by simp_all; omega
 refine ac ?_
 refine ac ?_
 · refine bool_eq ?_; symm; rw [decide_eq_false_iff_not]; rintro rfl; exact hne rfl
 have hll : a.length = b.length := by simp_all; omega
 refine ac ?_
 refine ac ?_
 refine Tr.block (Tr.loopw [(0, _), (1, _)] (kk2 rfl) (fun k : Nat => [(5, int ((k : Nat) : Int))]) (fun k : Nat => k ≤ (a).length ∧ (a.take k = b.take k)) (fun k : Nat => (a).length - k) 0 (⟨Nat.zero_le _, rfl⟩) ⟨ke rfl, trivial⟩ ?_)
 rintro k ⟨hle_k, hinv_k⟩
 refine ac ?_
 refine Tr.cn rfl ?_ ?_ <;> intro h2 q2
 have hk_k : k < (a).length := lt_of_dec h2
 obtain ⟨x, hx_k⟩ := at_ hk_k
 obtain ⟨y, hy⟩ := at_ (l := b) (k := k) (by omega)
 refine ac ?_
 refine ac ?_
 refine co rfl (ok_indexAddr rfl Tryz.underlying22 sz3 (vl rfl) (vl rfl) (by omega) (row_at hx_k)) ?_
 refine ac ?_
 refine co rfl (ok_indexAddr rfl Tryz.underlying22 sz3 (vl rfl) (vl rfl) (by omega) (row_at hy)) ?_
 refine ac ?_
 refine wk4 0 1 5 25 rfl ?_
 refine Tr.cn rfl ?_ ?_ <;> intro h3 q3
 refine ac ?_
 refine ac ?_
 · refine bool_eq ?_; symm; rw [decide_eq_false_iff_not]; refine sameN hx_k hy ?_; rintro rfl; simp_all
 refine ac ?_
 refine ac ?_
 exact Fin.fam_same (k + 1) ⟨⟨hk_k, sameY hx_k hy hinv_k (by simp_all)⟩, by omega⟩ ⟨⟨_, rfl, int_succ k⟩, ke rfl, ke rfl, trivial⟩
 have he_k : k = (a).length := by have := ge_of_dec h2; omega
 subst he_k
 refine ac ?_
 refine ac ?_
 refine ac ?_
 · refine bool_eq ?_; symm; rw [decide_eq_true_eq]; exact sameA hll hinv_k
theorem w_SameTexts {a b : List (List UInt8)}  : Fun Tryz.prog 175 [txts a, txts b] (bool (decide (a = b))) := by
 refine fo Tryz.func175 rfl ⟨rfl, rfl⟩ fun M0 w0 => (Tr.lenm 0 rfl fun hlm_0 => (Tr.lenm 1 rfl fun hlm_1 => ?_))
 refine ac ?_
 refine ac ?_
 refine Tr.cn rfl ?_ ?_ <;> intro h1 q1
 have hne : ¬ a.length = b.length := by simp_all; omega
 refine ac ?_
 refine ac ?_
 · refine bool_eq ?_; symm; rw [decide_eq_false_iff_not]; rintro rfl; exact hne rfl
 have hll : a.length = b.length := by simp_all; omega
 refine ac ?_
 refine ac ?_
 refine Tr.block (Tr.loopw [(0, _), (1, _)] (kk2 rfl) (fun k : Nat => [(5, int ((k : Nat) : Int))]) (fun k : Nat => k ≤ (a).length ∧ (a.take k = b.take k)) (fun k : Nat => (a).length - k) 0 (⟨Nat.zero_le _, rfl⟩) ⟨ke rfl, trivial⟩ ?_)
 rintro k ⟨hle_k, hinv_k⟩
 refine ac ?_
 refine Tr.cn rfl ?_ ?_ <;> intro h2 q2
 have hk_k : k < (a).length := lt_of_dec h2
 obtain ⟨x, hx_k⟩ := at_ hk_k
 obtain ⟨y, hy⟩ := at_ (l := b) (k := k) (by omega)
 refine ac ?_
 refine ac ?_
 refine co rfl (ok_indexAddr rfl Tryz.underlying83 sz9 (vl rfl) (vl rfl) (by omega) (row_at hx_k)) ?_
 refine ac ?_
 refine co rfl (ok_indexAddr rfl Tryz.underlying83 sz9 (vl rfl) (vl rfl) (by omega) (row_at hy)) ?_
 refine ac ?_
 refine wk4 0 1 5 25 rfl ?_
 refine Tr.cn rfl ?_ ?_ <;> intro h3 q3
 refine ac ?_
 refine ac ?_
 · refine bool_eq ?_; symm; rw [decide_eq_false_iff_not]; refine sameN hx_k hy ?_; rintro rfl; simp_all
 refine ac ?_
 refine ac ?_
 exact Fin.fam_same (k + 1) ⟨⟨hk_k, sameY hx_k hy hinv_k (by simp_all)⟩, by omega⟩ ⟨⟨_, rfl, int_succ k⟩, ke rfl, ke rfl, trivial⟩
 have he_k : k = (a).length := by have := ge_of_dec h2; omega
 subst he_k
 refine ac ?_
 refine ac ?_
 refine ac ?_
 · refine bool_eq ?_; symm; rw [decide_eq_true_eq]; exact sameA hll hinv_k
theorem w_R3Same {a b : Crt}  : Fun Tryz.prog 139 [agg (rowCr a), agg (rowCr b)] (bool (decide (a = b))) := by
 refine fo Tryz.func139 rfl ⟨rfl, rfl⟩ fun M0 w0 => ?_
 refine ac ?_
 refine ac ?_
 refine Ch.cs 10 rfl ?_ ?_ <;> intro h1 q1
 refine ac ?_
 refine Ch.cs 17 rfl ?_ ?_ <;> intro h2 q2
 refine ac ?_
 refine Ch.cs 24 rfl ?_ ?_ <;> intro h3 q3
 refine ac ?_
 refine cy h3 rfl (ok_eq44 rfl (vl rfl) (vl rfl)) ?_
 refine ac ?_
 refine Ch.cs 31 rfl ?_ ?_ <;> intro h4 q4
 refine ac ?_
 refine Ch.cs 38 rfl ?_ ?_ <;> intro h5 q5
 refine ac ?_
 refine cy h5 rfl (ok_eq44 rfl (vl rfl) (vl rfl)) ?_
 refine ac ?_
 refine Ch.cs 45 rfl ?_ ?_ <;> intro h6 q6
 refine ac ?_
 refine Ch.cs 52 rfl ?_ ?_ <;> intro h7 q7
 refine ac ?_
 refine Ch.cs 59 rfl ?_ ?_ <;> intro h8 q8
 refine ac ?_
 refine Ch.cs 66 rfl ?_ ?_ <;> intro h9 q9
 refine ac ?_
 refine Ch.cs 73 rfl ?_ ?_ <;> intro h10 q10
 refine ac ?_
 refine cy h10 rfl (kc2 (w_SameTexts) rfl rfl rfl) ?_
 refine ac ?_
 refine Ch.cs 80 rfl ?_ ?_ <;> intro h11 q11
 refine ac ?_
 refine cy h11 rfl (ok_eq124 rfl (vl rfl) (vl rfl)) ?_
 refine ac ?_
 refine wk1 4 rfl ?_
 refine ac ?_
 · refine bool_eq ?_; cases a; cases b; simp_all
 refine ac ?_
 refine wk1 4 rfl ?_
 refine ac ?_
 · refine bool_eq ?_; cases a; cases b; simp_all
 refine ac ?_
 refine wk1 4 rfl ?_
 refine ac ?_
 · refine bool_eq ?_; cases a; cases b; simp_all
 refine ac ?_
 refine wk1 4 rfl ?_
 refine ac ?_
 · refine bool_eq ?_; cases a; cases b; simp_all
 refine ac ?_
 refine wk1 4 rfl ?_
 refine ac ?_
 · refine bool_eq ?_; cases a; cases b; simp_all
 refine ac ?_
 refine wk1 4 rfl ?_
 refine ac ?_
 · refine bool_eq ?_; cases a; cases b; simp_all
 refine ac ?_
 refine wk1 4 rfl ?_
 refine ac ?_
 · refine bool_eq ?_; cases a; cases b; simp_all
 refine ac ?_
 refine wk1 4 rfl ?_
 refine ac ?_
 · refine bool_eq ?_; cases a; cases b; simp_all
 refine ac ?_
 refine wk1 4 rfl ?_
 refine ac ?_
 · refine bool_eq ?_; cases a; cases b; simp_all
 refine ac ?_
 refine wk1 4 rfl ?_
 refine ac ?_
 · refine bool_eq ?_; cases a; cases b; simp_all
 refine ac ?_
 refine wk1 4 rfl ?_
 refine ac ?_
 · refine bool_eq ?_; cases a; cases b; simp_all
 refine ac ?_
 refine wk1 4 rfl ?_
 refine ac ?_
 · refine bool_eq ?_; cases a; cases b; simp_all
theorem w_R3SameChain {a b : List (Crt)}  : Fun Tryz.prog 102 [certs a, certs b] (bool (decide (a = b))) := by
 refine fo Tryz.func102 rfl ⟨rfl, rfl⟩ fun M0 w0 => (Tr.lenm 0 rfl fun hlm_0 => (Tr.lenm 1 rfl fun hlm_1 => ?_))
 refine ac ?_
 refine ac ?_
 refine Tr.cn rfl ?_ ?_ <;> intro h1 q1
 have hne : ¬ a.length = b.length := by simp_all; omega
 refine ac ?_
 refine ac ?_
 · refine bool_eq ?_; symm; rw [decide_eq_false_iff_not]; rintro rfl; exact hne rfl
 have hll : a.length = b.length := by simp_all; omega
 refine ac ?_
 refine ac ?_
 refine Tr.block (Tr.loopw [(0, _), (1, _)] (kk2 rfl) (fun k : Nat => [(5, int ((k : Nat) : Int))]) (fun k : Nat => k ≤ (a).length ∧ (a.take k = b.take k)) (fun k : Nat => (a).length - k) 0 (⟨Nat.zero_le _, rfl⟩) ⟨ke rfl, trivial⟩ ?_)
 rintro k ⟨hle_k, hinv_k⟩
 refine ac ?_
 refine Tr.cn rfl ?_ ?_ <;> intro h2 q2
 have hk_k : k < (a).length := lt_of_dec h2
 obtain ⟨x, hx_k⟩ := at_ hk_k
 obtain ⟨y, hy⟩ := at_ (l := b) (k := k) (by omega)
 refine ac ?_
 refine ac ?_
 refine co rfl (ok_indexAddr rfl Tryz.underlying45 sz126 (vl rfl) (vl rfl) (by omega) (row_at hx_k)) ?_
 refine ac ?_
 refine co rfl (ok_indexAddr rfl Tryz.underlying45 sz126 (vl rfl) (vl rfl) (by omega) (row_at hy)) (co rfl (ok_loadA rfl agg126 sz126 (vl rfl) rfl rfl) (co rfl (kc2 (w_R3Same) rfl rfl rfl) ?_))
 refine ac ?_
 refine wk4 0 1 5 26 rfl ?_
 refine Tr.cn rfl ?_ ?_ <;> intro h3 q3
 refine ac ?_
 refine ac ?_
 · refine bool_eq ?_; symm; rw [decide_eq_false_iff_not]; refine sameN hx_k hy ?_; rintro rfl; simp_all
 refine ac ?_
 refine ac ?_
 exact Fin.fam_same (k + 1) ⟨⟨hk_k, sameY hx_k hy hinv_k (by simp_all)⟩, by omega⟩ ⟨⟨_, rfl, int_succ k⟩, ke rfl, ke rfl, trivial⟩
 have he_k : k = (a).length := by have := ge_of_dec h2; omega
 subst he_k
 refine ac ?_
 refine ac ?_
 refine ac ?_
 · refine bool_eq ?_; symm; rw [decide_eq_true_eq]; exact sameA hll hinv_k
theorem w_R9SameIds {a b : List (Idn)}  : Fun Tryz.prog 61 [idns a, idns b] (bool (decide (a = b))) := by
 refine fo Tryz.func61 rfl ⟨rfl, rfl⟩ fun M0 w0 => (Tr.lenm 0 rfl fun hlm_0 => (Tr.lenm 1 rfl fun hlm_1 => ?_))
 refine ac ?_
 refine ac ?_
 refine Tr.cn rfl ?_ ?_ <;> intro h1 q1
 have hne : ¬ a.length = b.length := by simp_all; omega
 refine ac ?_
 refine ac ?_
 · refine bool_eq ?_; symm; rw [decide_eq_false_iff_not]; rintro rfl; exact hne rfl
 have hll : a.length = b.length := by simp_all; omega
 refine ac ?_
 refine ac ?_
 refine Tr.block (Tr.loopw [(0, _), (1, _)] (kk2 rfl) (fun k : Nat => [(5, int ((k : Nat) : Int))]) (fun k : Nat => k ≤ (a).length ∧ (a.take k = b.take k)) (fun k : Nat => (a).length - k) 0 (⟨Nat.zero_le _, rfl⟩) ⟨ke rfl, trivial⟩ ?_)
 rintro k ⟨hle_k, hinv_k⟩
 refine ac ?_
 refine Tr.cn rfl ?_ ?_ <;> intro h2 q2
 have hk_k : k < (a).length := lt_of_dec h2
 obtain ⟨x, hx_k⟩ := at_ hk_k
 obtain ⟨y, hy⟩ := at_ (l := b) (k := k) (by omega)
 refine ac ?_
 refine ac ?_
 refine co rfl (ok_indexAddr rfl Tryz.underlying33 sz47 (vl rfl) (vl rfl) (by omega) (row_at hx_k)) ?_
 refine ac ?_
 refine co rfl (ok_indexAddr rfl Tryz.underlying33 sz47 (vl rfl) (vl rfl) (by omega) (row_at hy)) ?_
 refine ac ?_
 refine co rfl (ok_ne44 rfl (vl rfl) (vl rfl)) (cm rfl ?_)
 refine Ch.cs 28 rfl ?_ ?_ <;> intro h3 q3
 refine ac ?_
 refine wk4 0 1 5 54 rfl ?_
 refine ac ?_
 refine ac ?_
 · refine bool_eq ?_; symm; rw [decide_eq_false_iff_not]; refine sameN hx_k hy ?_; rintro rfl; simp_all
 refine ac ?_
 refine cy h3 rfl (ok_indexAddr rfl Tryz.underlying33 sz47 (vl rfl) (vl rfl) (by omega) (row_at hx_k)) ?_
 refine ac ?_
 refine cy h3 rfl (ok_indexAddr rfl Tryz.underlying33 sz47 (vl rfl) (vl rfl) (by omega) (row_at hy)) ?_
 refine ac ?_
 refine Ch.cs 41 rfl ?_ ?_ <;> intro h4 q4
 refine ac ?_
 refine wk4 0 1 5 54 rfl ?_
 refine ac ?_
 refine ac ?_
 · refine bool_eq ?_; symm; rw [decide_eq_false_iff_not]; refine sameN hx_k hy ?_; rintro rfl; simp_all
 refine ac ?_
 refine cy h4 rfl (ok_indexAddr rfl Tryz.underlying33 sz47 (vl rfl) (vl rfl) (by omega) (row_at hx_k)) ?_
 refine ac ?_
 refine cy h4 rfl (ok_indexAddr rfl Tryz.underlying33 sz47 (vl rfl) (vl rfl) (by omega) (row_at hy)) ?_
 refine ac ?_
 refine cy h4 rfl (kc2 (w_R3SameChain) rfl rfl rfl) ?_
 refine ac ?_
 refine wk4 0 1 5 54 rfl ?_
 refine Tr.cn rfl ?_ ?_ <;> intro h5 q5
 refine ac ?_
 refine ac ?_
 · refine bool_eq ?_; symm; rw [decide_eq_false_iff_not]; refine sameN hx_k hy ?_; rintro rfl; simp_all
 refine ac ?_
 refine ac ?_
 exact Fin.fam_same (k + 1) ⟨⟨hk_k, sameY hx_k hy hinv_k (by cases x; cases y; simp_all)⟩, by omega⟩ ⟨⟨_, rfl, int_succ k⟩, ke rfl, ke rfl, trivial⟩
 have he_k : k = (a).length := by have := ge_of_dec h2; omega
 subst he_k
 refine ac ?_
 refine ac ?_
 refine ac ?_
 · refine bool_eq ?_; symm; rw [decide_eq_true_eq]; exact sameA hll hinv_k
theorem w_R9Same {a b : Ept}  : Fun Tryz.prog 18 [agg (rowEp a), agg (rowEp b)] (bool (decide (a = b))) := by
 refine fo Tryz.func18 rfl ⟨rfl, rfl⟩ fun M0 w0 => ?_
 refine ac ?_
 refine ac ?_
 refine Ch.cs 10 rfl ?_ ?_ <;> intro h1 q1
 refine ac ?_
 refine Ch.cs 17 rfl ?_ ?_ <;> intro h2 q2
 refine ac ?_
 refine Ch.cs 24 rfl ?_ ?_ <;> intro h3 q3
 refine ac ?_
 refine cy h3 rfl (kc2 (w_SameInts) rfl rfl rfl) ?_
 refine ac ?_
 refine Ch.cs 31 rfl ?_ ?_ <;> intro h4 q4
 refine ac ?_
 refine Ch.cs 38 rfl ?_ ?_ <;> intro h5 q5
 refine ac ?_
 refine cy h5 rfl (kc2 (w_R9SameIds) rfl rfl rfl) ?_
 refine ac ?_
 refine Ch.cs 45 rfl ?_ ?_ <;> intro h6 q6
 refine ac ?_
 refine cy h6 rfl (kc2 (w_SameInts) rfl rfl rfl) ?_
 refine ac ?_
 refine Ch.cs 52 rfl ?_ ?_ <;> intro h7 q7
 refine ac ?_
 refine cy h7 rfl (kc2 (w_SameInts) rfl rfl rfl) ?_
 refine ac ?_
 refine Ch.cs 59 rfl ?_ ?_ <;> intro h8 q8
 refine ac ?_
 refine wk1 4 rfl ?_
 refine ac ?_
 · refine bool_eq ?_; cases a; cases b; simp_all [Bool.beq_eq_decide_eq]
 refine ac ?_
 refine wk1 4 rfl ?_
 refine ac ?_
 · refine bool_eq ?_; cases a; cases b; simp_all [Bool.beq_eq_decide_eq]
 refine ac ?_
 refine wk1 4 rfl ?_
 refine ac ?_
 · refine bool_eq ?_; cases a; cases b; simp_all [Bool.beq_eq_decide_eq]
 refine ac ?_
 refine wk1 4 rfl ?_
 refine ac ?_
 · refine bool_eq ?_; cases a; cases b; simp_all [Bool.beq_eq_decide_eq]
 refine ac ?_
 refine wk1 4 rfl ?_
 refine ac ?_
 · refine bool_eq ?_; cases a; cases b; simp_all [Bool.beq_eq_decide_eq]
 refine ac ?_
 refine wk1 4 rfl ?_
 refine ac ?_
 · refine bool_eq ?_; cases a; cases b; simp_all [Bool.beq_eq_decide_eq]
 refine ac ?_
 refine wk1 4 rfl ?_
 refine ac ?_
 · refine bool_eq ?_; cases a; cases b; simp_all [Bool.beq_eq_decide_eq]
 refine ac ?_
 refine wk1 4 rfl ?_
 refine ac ?_
 · refine bool_eq ?_; cases a; cases b; simp_all [Bool.beq_eq_decide_eq]
 refine ac ?_
 refine wk1 4 rfl ?_
 refine ac ?_
 · refine bool_eq ?_; cases a; cases b; simp_all [Bool.beq_eq_decide_eq]
theorem w_R24SameC {a b : Crt} (hn : a.names.length ≤ 1000000) : Fun Tryz.prog 114 [agg (rowCr a), agg (rowCr b)] (bool (decide (a = b))) := by
 refine fo Tryz.func114 rfl ⟨rfl, rfl⟩ fun M0 w0 => ?_
 refine ac ?_
 refine ac ?_
 refine Ch.cs 11 rfl ?_ ?_ <;> intro h1 q1
 refine ac ?_
 refine wk3 2 3 89 rfl ?_
 refine ac ?_
 refine ac ?_
 · refine bool_eq ?_; symm; rw [decide_eq_false_iff_not]; rintro rfl; simp_all
 refine ac ?_
 refine Ch.cs 18 rfl ?_ ?_ <;> intro h2 q2
 refine ac ?_
 refine wk3 2 3 89 rfl ?_
 refine ac ?_
 refine ac ?_
 · refine bool_eq ?_; symm; rw [decide_eq_false_iff_not]; rintro rfl; simp_all
 refine ac ?_
 refine Ch.cs 25 rfl ?_ ?_ <;> intro h3 q3
 refine ac ?_
 refine wk3 2 3 89 rfl ?_
 refine ac ?_
 refine ac ?_
 · refine bool_eq ?_; symm; rw [decide_eq_false_iff_not]; rintro rfl; simp_all
 refine ac ?_
 refine cy h3 rfl (ok_ne44 rfl (vl rfl) (vl rfl)) ?_
 refine ac ?_
 refine Ch.cs 32 rfl ?_ ?_ <;> intro h4 q4
 refine ac ?_
 refine wk3 2 3 89 rfl ?_
 refine ac ?_
 refine ac ?_
 · refine bool_eq ?_; symm; rw [decide_eq_false_iff_not]; rintro rfl; simp_all
 refine ac ?_
 refine Ch.cs 39 rfl ?_ ?_ <;> intro h5 q5
 refine ac ?_
 refine wk3 2 3 89 rfl ?_
 refine ac ?_
 refine ac ?_
 · refine bool_eq ?_; symm; rw [decide_eq_false_iff_not]; rintro rfl; simp_all
 refine ac ?_
 refine cy h5 rfl (ok_ne44 rfl (vl rfl) (vl rfl)) ?_
 refine ac ?_
 refine Ch.cs 46 rfl ?_ ?_ <;> intro h6 q6
 refine ac ?_
 refine wk3 2 3 89 rfl ?_
 refine ac ?_
 refine ac ?_
 · refine bool_eq ?_; symm; rw [decide_eq_false_iff_not]; rintro rfl; simp_all
 refine ac ?_
 refine Ch.cs 53 rfl ?_ ?_ <;> intro h7 q7
 refine ac ?_
 refine wk3 2 3 89 rfl ?_
 refine ac ?_
 refine ac ?_
 · refine bool_eq ?_; symm; rw [decide_eq_false_iff_not]; rintro rfl; simp_all
 refine ac ?_
 refine Ch.cs 60 rfl ?_ ?_ <;> intro h8 q8
 refine ac ?_
 refine wk3 2 3 89 rfl ?_
 refine ac ?_
 refine ac ?_
 · refine bool_eq ?_; symm; rw [decide_eq_false_iff_not]; rintro rfl; simp_all
 refine ac ?_
 refine cy h8 rfl (ok_neb rfl Tryz.underlying4 (vl rfl) (vl rfl)) ?_
 refine ac ?_
 refine Ch.cs 67 rfl ?_ ?_ <;> intro h9 q9
 refine ac ?_
 refine wk3 2 3 89 rfl ?_
 refine ac ?_
 refine ac ?_
 · refine bool_eq ?_; symm; rw [decide_eq_false_iff_not]; rintro rfl; simp_all
 refine ac ?_
 refine Ch.cs 74 rfl ?_ ?_ <;> intro h10 q10
 refine ac ?_
 refine wk3 2 3 89 rfl ?_
 refine ac ?_
 refine ac ?_
 · refine bool_eq ?_; symm; rw [decide_eq_false_iff_not]; rintro rfl; simp_all
 refine ac ?_
 refine cy h10 rfl (ok_ne124 rfl (vl rfl) (vl rfl)) ?_
 refine ac ?_
 refine Ch.cs 81 rfl ?_ ?_ <;> intro h11 q11
 refine ac ?_
 refine wk3 2 3 89 rfl ?_
 refine ac ?_
 refine ac ?_
 · refine bool_eq ?_; symm; rw [decide_eq_false_iff_not]; rintro rfl; simp_all
 refine ac ?_
 refine wk3 2 3 89 rfl ?_
 refine Tr.cn rfl ?_ ?_ <;> intro h12 q12
 refine ac ?_
 refine ac ?_
 · refine bool_eq ?_; symm; rw [decide_eq_false_iff_not]; rintro rfl; simp_all
 have hll : a.names.length = b.names.length := by simp_all; omega
 refine ac ?_
 refine ac ?_
 refine Tr.block (Tr.loopw [(2, _), (3, _), (92, _)] (kk3 rfl) (fun k : Nat => [(93, int ((k : Nat) : Int))]) (fun k : Nat => k ≤ (a.names).length ∧ (a.names.take k = b.names.take k)) (fun k : Nat => (a.names).length - k) 0 (⟨Nat.zero_le _, rfl⟩) ⟨ke rfl, trivial⟩ ?_)
 rintro k ⟨hle_k, hinv_k⟩
 refine ac ?_
 refine Tr.seq ?_
 refine Tr.cn rfl ?_ ?_ <;> intro h13 q13
 have hk_k : k < (a.names).length := lt_of_dec h13
 obtain ⟨x, hx_k⟩ := at_ hk_k
 obtain ⟨y, hy⟩ := at_ (l := b.names) (k := k) (by omega)
 refine ac ?_
 refine ac ?_
 refine ac ?_
 refine co rfl (ok_indexAddr rfl Tryz.underlying83 sz9 (vl rfl) (vl rfl) (by omega) (row_at hx_k)) ?_
 refine ac ?_
 refine co rfl (ok_indexAddr rfl Tryz.underlying83 sz9 (vl rfl) (vl rfl) (by omega) (row_at hy)) ?_
 refine ac ?_
 refine wk5 2 3 92 93 106 rfl ?_
 refine Tr.cn rfl ?_ ?_ <;> intro h14 q14
 refine ac ?_
 refine ac ?_
 · refine bool_eq ?_; symm; rw [decide_eq_false_iff_not]; rintro rfl; rw [hx_k] at hy; cases hy; simp_all
 refine ac ?_
 refine ac ?_
 exact Fin.fam_same (k + 1) ⟨⟨hk_k, sameY hx_k hy hinv_k (by simp_all)⟩, by omega⟩ ⟨⟨_, rfl, int_succ k⟩, ke rfl, ke rfl, ke rfl, trivial⟩
 have he_k : k = (a.names).length := by have := ge_of_dec h13; omega
 subst he_k
 refine ac ?_
 refine ac ?_
 refine ac ?_
 · refine bool_eq ?_; have hnn := sameA hll hinv_k; clear hinv_k hll; cases a; cases b; simp_all
theorem w_R24SameI {a b : Idn} (hs : a.small) : Fun Tryz.prog 70 [agg (rowId a), agg (rowId b)] (bool (decide (a = b))) := by
 refine fo Tryz.func70 rfl ⟨rfl, rfl⟩ fun M0 w0 => ?_
 have hsc := hs.chain
 refine ac ?_
 refine ac ?_
 refine co rfl (ok_ne44 rfl (vl rfl) (vl rfl)) (cm rfl ?_)
 refine Ch.cs 11 rfl ?_ ?_ <;> intro h1 q1
 refine ac ?_
 refine wk3 2 3 26 rfl ?_
 refine ac ?_
 refine ac ?_
 · refine bool_eq ?_; symm; rw [decide_eq_false_iff_not]; rintro rfl; simp_all
 refine ac ?_
 refine Ch.cs 18 rfl ?_ ?_ <;> intro h2 q2
 refine ac ?_
 refine wk3 2 3 26 rfl ?_
 refine ac ?_
 refine ac ?_
 · refine bool_eq ?_; symm; rw [decide_eq_false_iff_not]; rintro rfl; simp_all
 refine ac ?_
 refine wk3 2 3 26 rfl ?_
 refine Tr.cn rfl ?_ ?_ <;> intro h3 q3
 refine ac ?_
 refine ac ?_
 · refine bool_eq ?_; symm; rw [decide_eq_false_iff_not]; rintro rfl; simp_all
 have hll : a.chain.length = b.chain.length := by simp_all; omega
 refine ac ?_
 refine ac ?_
 refine Tr.block (Tr.loopw [(2, _), (3, _), (29, _)] (kk3 rfl) (fun k : Nat => [(30, int ((k : Nat) : Int))]) (fun k : Nat => k ≤ (a.chain).length ∧ (a.chain.take k = b.chain.take k)) (fun k : Nat => (a.chain).length - k) 0 (⟨Nat.zero_le _, rfl⟩) ⟨ke rfl, trivial⟩ ?_)
 rintro k ⟨hle_k, hinv_k⟩
 refine ac ?_
 refine Tr.seq ?_
 refine Tr.cn rfl ?_ ?_ <;> intro h4 q4
 have hk_k : k < (a.chain).length := lt_of_dec h4
 obtain ⟨x, hx_k⟩ := at_ hk_k
 obtain ⟨y, hy⟩ := at_ (l := b.chain) (k := k) (by omega)
 have hxn := hs.names x (List.mem_of_getElem? hx_k)
 refine ac ?_
 refine ac ?_
 refine ac ?_
 refine co rfl (ok_indexAddr rfl Tryz.underlying45 sz126 (vl rfl) (vl rfl) (by omega) (row_at hx_k)) ?_
 refine ac ?_
 refine co rfl (ok_indexAddr rfl Tryz.underlying45 sz126 (vl rfl) (vl rfl) (by omega) (row_at hy)) (co rfl (ok_loadA rfl agg126 sz126 (vl rfl) rfl rfl) (co rfl (kc2 (w_R24SameC hxn) rfl rfl rfl) ?_))
 refine ac ?_
 refine wk5 2 3 29 30 44 rfl ?_
 refine Tr.cn rfl ?_ ?_ <;> intro h5 q5
 refine ac ?_
 refine ac ?_
 · refine bool_eq ?_; symm; rw [decide_eq_false_iff_not]; rintro rfl; rw [hx_k] at hy; cases hy; simp_all
 refine ac ?_
 refine ac ?_
 exact Fin.fam_same (k + 1) ⟨⟨hk_k, sameY hx_k hy hinv_k (by simp_all)⟩, by omega⟩ ⟨⟨_, rfl, int_succ k⟩, ke rfl, ke rfl, ke rfl, trivial⟩
 have he_k : k = (a.chain).length := by have := ge_of_dec h4; omega
 subst he_k
 refine ac ?_
 refine ac ?_
 refine ac ?_
 · refine bool_eq ?_; have hnn := sameA hll hinv_k; clear hinv_k hll hs; cases a; cases b; simp_all
end Go.Proofs.YtflodcidhlmaaaaGreat
namespace Go.Proofs.YtflodcidhlmaaaaGreat
open Go Go.RowKit Cp

theorem kinds12 {k : Int} (hk : 1 ≤ k ∧ k ≤ 12) : k = 1 ∨ k = 2 ∨ k = 3 ∨ k = 4 ∨ k = 5 ∨ k = 6 ∨ k = 7 ∨ k = 8 ∨ k = 9 ∨ k = 10 ∨ k = 11 ∨ k = 12 := by omega
theorem stepR_ne {e : Ept} {c : Chg} {f : Int} (hc : okCh c) (h : stepR e c = .error f) : f ≠ 0 := by
  rcases kinds12 hc.1 with hk | hk | hk | hk | hk | hk | hk | hk | hk | hk | hk | hk
  · rw [stepR_1 hk] at h; (repeat' (split at h)) <;> first | (injection h with h; omega) | (cases h; done)
  · rw [stepR_2 hk] at h; (repeat' (split at h)) <;> first | (injection h with h; omega) | (cases h; done)
  · rw [stepR_3 hk] at h; (repeat' (split at h)) <;> first | (injection h with h; omega) | (cases h; done)
  · rw [stepR_4 hk] at h; (repeat' (split at h)) <;> first | (injection h with h; omega) | (cases h; done)
  · rw [stepR_5 hk] at h; (repeat' (split at h)) <;> first | (injection h with h; omega) | (cases h; done)
  · rw [stepR_6 hk] at h; (repeat' (split at h)) <;> first | (injection h with h; omega) | (cases h; done)
  · rw [stepR_7 hk] at h; (repeat' (split at h)) <;> first | (injection h with h; omega) | (cases h; done)
  · rw [stepR_8 hk] at h; (repeat' (split at h)) <;> first | (injection h with h; omega) | (cases h; done)
  · rw [stepR_9 hk] at h; (repeat' (split at h)) <;> first | (injection h with h; omega) | (cases h; done)
  · rw [stepR_10 hk] at h; (repeat' (split at h)) <;> first | (injection h with h; omega) | (cases h; done)
  · rw [stepR_11 hk] at h; (repeat' (split at h)) <;> first | (injection h with h; omega) | (cases h; done)
  · rw [stepR_12 hk] at h; (repeat' (split at h)) <;> first | (injection h with h; omega) | (cases h; done)
theorem doneR_inv {e : Ept} {c : Chg} {x : Ept} {b : Chg} (h : doneR e c = (x, b, 0)) : EptOk e ∧ okCh c ∧ stepR e c = .ok (x, b) ∧ EptOk x := by
  unfold doneR at h
  split at h
  · cases h
  next h1 =>
  split at h
  · cases h
  next h2 =>
  have h1 : eptB e = true := by cases hh : eptB e with
    | true => rfl
    | false => exact absurd hh h1
  have h2 : okCh c := Classical.not_not.1 h2
  cases hs : stepR e c with
  | error f =>
    rw [hs] at h
    simp only [Prod.mk.injEq] at h
    exact absurd h.2.2 (stepR_ne h2 hs)
  | ok r =>
    obtain ⟨x', b'⟩ := r
    rw [hs] at h
    simp only at h
    split at h
    next h3 => simp only [Prod.mk.injEq, and_true] at h; obtain ⟨rfl, rfl⟩ := h; exact ⟨eptB_iff.1 h1, h2, rfl, eptB_iff.1 h3⟩
    · cases h
section
variable {α : Type} {p : α → Bool} {l : List α} {a : α} {i : Nat}
theorem idx_none' (h : l.any p = false) : idx p l < 0 := by
  unfold idx
  cases hf : l.findIdx? p with
  | none => show (-1 : Int) < 0; omega
  | some j =>
    rw [List.findIdx?_eq_some_iff_getElem] at hf
    obtain ⟨h1, h2, _⟩ := hf
    rw [List.any_eq_false] at h
    exact absurd h2 (h _ (List.getElem_mem h1))
theorem idx_lt0 (h : idx p l < 0) : l.any p = false := by
  rw [List.any_eq_false]
  intro x hx hp
  unfold idx at h
  cases hf : l.findIdx? p with
  | none => rw [List.findIdx?_eq_none_iff] at hf; rw [hf x hx] at hp; cases hp
  | some j => rw [hf] at h; simp at h; omega
theorem idx_at (hi : l[i]? = some a) (hp : p a = true) (hno : ∀ (j : Nat) y, j < i → l[j]? = some y → p y = false) : idx p l = ((i : Nat) : Int) := by
  unfold idx
  have hlt := lt_of_at hi
  rw [List.getElem?_eq_getElem hlt] at hi; cases hi
  have : l.findIdx? p = some i := by
    rw [List.findIdx?_eq_some_iff_getElem]
    exact ⟨hlt, hp, fun j hj => by rw [hno j _ hj (List.getElem?_eq_getElem (by omega))]; decide⟩
  rw [this]
theorem ins_at (hi : i ≤ l.length) : (l.take i ++ [a] ++ l.drop i)[i]? = some a := by
  rw [List.append_assoc, List.getElem?_append_right (by rw [List.length_take]; omega), List.length_take, show i - min i l.length = 0 by omega]; rfl
theorem ins_lt (hi : i ≤ l.length) {j : Nat} (hj : j < i) : (l.take i ++ [a] ++ l.drop i)[j]? = l[j]? := by
  rw [List.append_assoc, List.getElem?_append_left (by rw [List.length_take]; omega), List.getElem?_take, if_pos hj]
theorem ins_len (hi : i ≤ l.length) : (l.take i ++ [a] ++ l.drop i).length = l.length + 1 := by simp [List.length_take, List.length_drop]; omega
theorem idx_ins (hi : i ≤ l.length) (hp : p a = true) (h : l.any p = false) : idx p (l.take i ++ [a] ++ l.drop i) = ((i : Nat) : Int) := by
  refine idx_at (ins_at hi) hp (fun j y hj hy => ?_)
  rw [ins_lt hi hj] at hy
  rw [List.any_eq_false] at h
  simpa using h y (List.mem_of_getElem? hy)
theorem any_erase (h : ∀ (j : Nat) y, l[j]? = some y → p y = true → j = i) : (l.eraseIdx i).any p = false := by
  rw [List.any_eq_false]
  intro y hy hp
  obtain ⟨j, hj⟩ := List.getElem?_of_mem hy
  rw [List.getElem?_eraseIdx] at hj
  split at hj
  · have := h j y hj hp; omega
  · have := h (j + 1) y hj hp; omega
theorem idx_first {j : Nat} {y : α} (h0 : 0 ≤ idx p l) (hy : l[j]? = some y) (hp : p y = true) : (idx p l).toNat ≤ j := by
  unfold idx at h0 ⊢
  cases hf : l.findIdx? p with
  | none => rw [hf] at h0; simp at h0
  | some k =>
    rw [List.findIdx?_eq_some_iff_getElem] at hf
    obtain ⟨_, _, h3⟩ := hf
    show k ≤ j
    refine Nat.le_of_not_lt fun hlt => ?_
    have := h3 j hlt
    have hlt2 := lt_of_at hy
    rw [List.getElem?_eq_getElem hlt2] at hy; cases hy
    exact this hp
end
theorem suites_one {l : List Int} (h : suitesB l = true) {i j : Nat} {n : Int} (hi : l[i]? = some n) (hj : l[j]? = some n) : i = j := by
  unfold suitesB at h; rw [allI_iff] at h
  have key : ∀ {a b : Nat}, a < b → l[a]? = some n → l[b]? = some n → False := by
    intro a b hab ha hb
    have := h b (lt_of_at hb)
    unfold suiteAt at this
    rw [getD_at hb] at this
    simp only [Bool.and_eq_true, Bool.not_eq_true', List.any_eq_false] at this
    have := this.2 n (List.mem_of_getElem? (show (l.take b)[a]? = some n by rw [List.getElem?_take, if_pos hab]; exact ha))
    simp at this
  rcases Nat.lt_trichotomy i j with h1 | h1 | h1
  · exact (key h1 hi hj).elim
  · exact h1
  · exact (key h1 hj hi).elim
theorem posI_ins {l : List Int} {n : Int} (h : AscI l) : posI (insX l n) n = posI l n ∧ hasX (insX l n) n = true := by
  have h0 := posI_le l n
  have h1 : posI (insX l n) n = posI l n := by
    refine posI_eq (by rw [ins_len h0]; omega) (fun j y hj hy => ?_) (fun y hy => ?_)
    · rw [ins_lt h0 hj] at hy; exact posI_lt hj hy
    · rw [ins_at h0] at hy; cases hy; omega
  refine ⟨h1, ?_⟩
  unfold hasX; rw [h1, ins_at h0]; simp
theorem hasX_hit {l : List Int} {n : Int} (h : hasX l n = true) : l[posI l n]? = some n := by
  unfold hasX at h
  cases hh : l[posI l n]? with
  | none => rw [hh] at h; cases h
  | some y => rw [hh] at h; simp at h; rw [h]
theorem posI_del {l : List Int} {n : Int} (hs : AscI l) (h : hasX l n = true) : posI (l.eraseIdx (posI l n)) n = posI l n ∧ hasX (l.eraseIdx (posI l n)) n = false := by
  have hh := hasX_hit h
  have hlt := lt_of_at hh
  have hnext : ∀ y, (l.eraseIdx (posI l n))[posI l n]? = some y → n < y := by
    intro y hy
    rw [List.getElem?_eraseIdx, if_neg (by omega)] at hy
    exact ascI_lt hs (Nat.lt_succ_self _) hh hy
  have h1 : posI (l.eraseIdx (posI l n)) n = posI l n := by
    refine posI_eq (by rw [List.length_eraseIdx, if_pos hlt]; omega) (fun j y hj hy => ?_) (fun y hy => by have := hnext y hy; omega)
    rw [List.getElem?_eraseIdx, if_pos hj] at hy; exact posI_lt hj hy
  refine ⟨h1, ?_⟩
  unfold hasX; rw [h1]
  cases hh2 : (l.eraseIdx (posI l n))[posI l n]? with
  | none => rfl
  | some y => have := hnext y hh2; simp; omega
theorem bit_back {n : Int} {f : Bool} (hn : 0 ≤ n ∧ n ≤ 1) (h : ¬ bitI f = n) : (0 ≤ bitI f ∧ bitI f ≤ 1) ∧ ¬ bitI (n == 1) = bitI f ∧ (bitI f == 1) = f ∧ bitI (n == 1) = n := by
  have : n = 0 ∨ n = 1 := by omega
  rcases this with rfl | rfl <;> cases f <;> simp_all [bitI]
end Go.Proofs.YtflodcidhlmaaaaGreat
namespace Go.Proofs.YtflodcidhlmaaaaGreat
open Go Go.RowKit Cp

abbrev u8R : List Pr := [anyK .u8]
abbrev bts (m : Nat) : Pr := slice 1 (List.replicate m u8R)
abbrev bytesE (B : Nat) : Pr := Cp.ex fun m : Nat => fact (m ≤ B) (bts m)
abbrev anyB : Pr := Cp.ex fun b : Bool => bool b
abbrev rowQ (q : Pr) : List Pr := [anyK .i64, bytesE 1000, anyB, q]
abbrev elemsE (row : List Pr) : Pr := Cp.ex fun m : Nat => fact (m ≤ 20) (slice 4 (List.replicate m row))
abbrev depthE (D : Nat) : Pr := Cp.ex fun d : Int => fact (0 ≤ d ∧ d ≤ (D : Nat)) (int d)
theorem rep_at {r : List Pr} {m k : Nat} (h : k < m) : (List.replicate m r)[((k : Nat) : Int).toNat]? = some r := by rw [Int.toNat_natCast, List.getElem?_replicate, if_pos h]
theorem rep_one {r : List Pr} {m : Nat} : List.replicate m r ++ [r] = List.replicate (m + 1) r := by rw [List.replicate_succ']
theorem rep_add {r : List Pr} {m k : Nat} : List.replicate m r ++ List.replicate k r = List.replicate (m + k) r := by rw [List.replicate_append_replicate]
theorem LeL.refl : ∀ l : List Pr, LeL l l
  | [] => trivial
  | _ :: l => ⟨Pr.le_refl _, LeL.refl l⟩
/-- Rows that read less exactly. -/
theorem slice_le {sz : Nat} {rows rows' : List (List Pr)} (hl : rows.length = rows'.length) (h : ∀ (i : Nat) r r', rows[i]? = some r → rows'[i]? = some r' → r.length = r'.length ∧ ∀ (j : Nat) p p', r[j]? = some p → r'[j]? = some p' → Pr.le p p') : Pr.le (slice sz rows) (slice sz rows') := by
  rintro M w v ⟨a, cap, h1, h2, h3, h4, h5⟩
  refine ⟨a, cap, by rw [← hl]; exact h1, by rw [← hl]; exact h2, h3, h4, fun i row hr => ?_⟩
  have hi : i < rows.length := by rw [hl]; exact lt_of_at hr
  have hr0 := List.getElem?_eq_getElem hi
  obtain ⟨g1, g2⟩ := h i _ _ hr0 hr
  obtain ⟨k1, ad, k2, k3⟩ := h5 i _ hr0
  refine ⟨by rw [← g1]; exact k1, ad, k2, fun j p' hp' => ?_⟩
  have hj : j < rows[i].length := by rw [g1]; exact lt_of_at hp'
  have hp := List.getElem?_eq_getElem hj
  obtain ⟨u, c1, c2, c3, c4⟩ := k3 j _ hp
  exact ⟨u, c1, c2, c3, g2 j _ _ hp hp' _ _ _ c4⟩
theorem slice_rep {sz : Nat} {rows : List (List Pr)} {r : List Pr} (h : ∀ q ∈ rows, q.length = r.length ∧ ∀ (j : Nat) p p', q[j]? = some p → r[j]? = some p' → Pr.le p p') : Pr.le (slice sz rows) (slice sz (List.replicate rows.length r)) :=
  slice_le (by simp) fun i q q' hq hq' => by
    rw [List.getElem?_replicate, if_pos (lt_of_at hq)] at hq'
    cases hq'
    exact h q (List.mem_of_getElem? hq)
theorem bts_of {β : Type} {l : List β} {f : β → Int} : Pr.le (slice 1 (l.map fun x => [is (.int .u8 (f x))])) (bts l.length) := by
  have := slice_rep (sz := 1) (rows := l.map fun x => [is (.int .u8 (f x))]) (r := u8R) (by
    intro q hq
    obtain ⟨x, _, rfl⟩ := List.mem_map.1 hq
    refine ⟨rfl, fun j p p' hp hp' => ?_⟩
    cases j with
    | zero => simp at hp hp'; subst hp; subst hp'; exact is_anyK _ _
    | succ j => simp at hp)
  rwa [List.length_map] at this
theorem bytesE_in {B m : Nat} {p : Pr} (h : m ≤ B) (hp : Pr.le p (bts m)) : Pr.le p (bytesE B) := ex_in m (fact_in h hp)
/-- What an element is, cell by cell. -/
theorem Fun.rowQ {P : Program} {f : FuncId} {row : List Pr} {res : Pr} (h : ∀ (t : Int) (b : Nat) (n : Bool) (m : Nat), b ≤ 1000 → m ≤ 20 → Fun P f [agg [int t, bts b, bool n, slice 4 (List.replicate m row)]] res) : Fun P f [agg (rowQ (elemsE row))] res := by
  refine ⟨(h 0 0 false 0 (by omega) (by omega)).1, fun M w vs hb hv => ?_⟩
  match vs, hv with
  | [u0], hv1 =>
    obtain ⟨⟨cs, rfl, ho, hcs⟩, _⟩ := hv1
    match cs, hcs with
    | [c0, c1, c2, c3], hc =>
      obtain ⟨⟨t, h0⟩, ⟨b, hb1, h1⟩, ⟨n, h2⟩, ⟨m, hm1, h3⟩, _⟩ := hc
      exact (h t b n m hb1 hm1).2 M w _ hb ⟨⟨_, rfl, ho, h0, h1, h2, h3, trivial⟩, trivial⟩
theorem Fun.rowQ0 {P : Program} {f : FuncId} {res : Pr} (h : ∀ (t : Int) (b : Nat) (n : Bool), b ≤ 1000 → Fun P f [agg [int t, bts b, bool n, slice 4 []]] res) : Fun P f [agg [anyK .i64, bytesE 1000, anyB, slice 4 []]] res := by
  refine ⟨(h 0 0 false (by omega)).1, fun M w vs hb hv => ?_⟩
  match vs, hv with
  | [u0], hv1 =>
    obtain ⟨⟨cs, rfl, ho, hcs⟩, _⟩ := hv1
    match cs, hcs with
    | [c0, c1, c2, c3], hc =>
      obtain ⟨⟨t, h0⟩, ⟨b, hb1, h1⟩, ⟨n, h2⟩, h3, _⟩ := hc
      exact (h t b n hb1).2 M w _ hb ⟨⟨_, rfl, ho, h0, h1, h2, h3, trivial⟩, trivial⟩

theorem w_rtag {n : Int}  : Fun Tryz.prog 247 [int n] (bool (decide (1 ≤ n) && decide (n ≤ 255) && (n.tmod 32 != 31))) := by
 refine fo Tryz.func247 rfl ⟨rfl, rfl⟩ fun M0 w0 => ?_
 refine ac ?_
 refine ac ?_
 refine Ch.cs 5 rfl ?_ ?_ <;> intro h1 q1
 refine ac ?_
 refine Ch.cs 9 rfl ?_ ?_ <;> intro h2 q2
 refine cym h2 rfl (cy h2 rfl (ok_rem rfl (vl rfl) (vl rfl) (by omega)) ?_)
 refine ac ?_
 refine ac ?_
 · refine bool_eq ?_; simp_all
 refine ac ?_
 refine ac ?_
 · refine bool_eq ?_; simp_all; omega
 refine ac ?_
 refine ac ?_
 · refine bool_eq ?_; simp_all; omega
theorem w_rformed {t : Int} {b : Nat} {n : Bool} {m : Nat} {q : Pr}  (hb : b ≤ 1000) (hm : m ≤ 20) (ih : m = 0 ∨ Fun Tryz.prog 210 [agg (rowQ q)] (anyB)) : Fun Tryz.prog 210 [agg [int t, bts b, bool n, slice 4 (List.replicate m (rowQ q))]] (anyB) := by
 refine fo Tryz.func210 rfl ⟨rfl, rfl⟩ fun M0 w0 => ?_
 have hlr : (List.replicate m (rowQ q)).length = m := List.length_replicate
 have hlb : (List.replicate b u8R).length = b := List.length_replicate
 refine ac ?_
 refine ac ?_
 refine co rfl (kc1 (w_rtag) rfl rfl) ?_
 refine ac ?_
 refine Ch.cs 8 rfl ?_ ?_ <;> intro h1 q1
 refine ac ?_
 refine wk2 1 38 rfl ?_
 refine ac ?_
 refine ac ?_
 · exact ex_in _ (Pr.le_refl _)
 refine ac ?_
 refine cy h1 rfl (ok_quo rfl (vl rfl) (vl rfl) (by omega)) (cy h1 rfl (ok_rem rfl (vl rfl) (vl rfl) (by omega)) (cy h1 rfl (ki rfl rfl rfl rfl) (cy h1 rfl (ok_neb rfl Tryz.underlying4 (vl rfl) (vl rfl)) ?_)))
 refine ac ?_
 refine Ch.cs 18 rfl ?_ ?_ <;> intro h2 q2
 refine ac ?_
 refine wk2 1 38 rfl ?_
 refine ac ?_
 refine ac ?_
 · exact ex_in _ (Pr.le_refl _)
 refine ac ?_
 refine Ch.cs 21 rfl ?_ ?_ <;> intro h3 q3
 refine ac ?_
 refine cy h3 rfl (ok_len rfl Tryz.underlying176 (vl rfl)) ?_
 refine ac ?_
 refine Ch.cs 28 rfl ?_ ?_ <;> intro h4 q4
 refine ac ?_
 refine wk2 1 38 rfl ?_
 refine ac ?_
 refine ac ?_
 · exact ex_in _ (Pr.le_refl _)
 refine ac ?_
 refine Ch.cs 32 rfl ?_ ?_ <;> intro h5 q5
 refine ac ?_
 refine cy h5 rfl (ok_len rfl Tryz.underlying193 (vl rfl)) ?_
 refine ac ?_
 refine wk2 1 38 rfl ?_
 refine Tr.cn rfl ?_ ?_ <;> intro h6 q6
 refine ac ?_
 refine ac ?_
 · exact ex_in _ (Pr.le_refl _)
 refine ac ?_
 refine ac ?_
 refine Tr.block (Tr.loopw [(1, _)] ⟨ke rfl, trivial⟩ (fun k : Nat => [(3, int ((k : Nat) : Int))]) (fun k : Nat => k ≤ ((List.replicate m (rowQ q)).length)) (fun k : Nat => ((List.replicate m (rowQ q)).length) - k) 0 (Nat.zero_le _) ⟨ke rfl, trivial⟩ ?_)
 rintro k hle_k
 refine ac ?_
 refine co rfl (ok_len rfl Tryz.underlying193 (vl rfl)) ?_
 refine ac ?_
 refine Tr.cn rfl ?_ ?_ <;> intro h7 q7
 have hk_k : k < ((List.replicate m (rowQ q)).length) := lt_of_dec h7
 have hkm : k < m := by simpa using hk_k
 have ih2 := ih.resolve_left (by omega)
 refine ac ?_
 refine ap ?_
 refine tp rfl (ok_indexAddr rfl Tryz.underlying193 sz195 (vl rfl) (vl rfl) (by omega) (rep_at hkm)) (tp rfl (ok_loadA rfl agg195 sz195 (vl rfl) rfl rfl) (tp rfl (kc1 (ih2) rfl rfl) ?_))
 refine TO.ex 51 rfl (fun z51 => ?_)
 refine ap ?_
 refine wk3 1 3 52 rfl ?_
 refine Tr.cn rfl ?_ ?_ <;> intro h8 q8
 refine ac ?_
 refine ac ?_
 · exact ex_in _ (Pr.le_refl _)
 refine ac ?_
 refine ac ?_
 exact Fin.fam_same (k + 1) ⟨hk_k, by omega⟩ ⟨⟨_, rfl, int_succ k⟩, ke rfl, trivial⟩
 have he_k : k = ((List.replicate m (rowQ q)).length) := by have := ge_of_dec h7; omega
 refine ac ?_
 refine ac ?_
 refine ac ?_
 · exact ex_in _ (Pr.le_refl _)
 refine ac ?_
 refine wk2 1 38 rfl ?_
 refine ac ?_
 refine ac ?_
 refine Tr.block (Tr.loopw [(1, _)] ⟨ke rfl, trivial⟩ (fun k : Nat => [(3, int ((k : Nat) : Int))]) (fun k : Nat => k ≤ ((List.replicate m (rowQ q)).length)) (fun k : Nat => ((List.replicate m (rowQ q)).length) - k) 0 (Nat.zero_le _) ⟨ke rfl, trivial⟩ ?_)
 rintro k hle_k
 refine ac ?_
 refine co rfl (ok_len rfl Tryz.underlying193 (vl rfl)) ?_
 refine ac ?_
 refine Tr.cn rfl ?_ ?_ <;> intro h9 q9
 have hk_k : k < ((List.replicate m (rowQ q)).length) := lt_of_dec h9
 have hkm : k < m := by simpa using hk_k
 have ih2 := ih.resolve_left (by omega)
 refine ac ?_
 refine ap ?_
 refine tp rfl (ok_indexAddr rfl Tryz.underlying193 sz195 (vl rfl) (vl rfl) (by omega) (rep_at hkm)) (tp rfl (ok_loadA rfl agg195 sz195 (vl rfl) rfl rfl) (tp rfl (kc1 (ih2) rfl rfl) ?_))
 refine TO.ex 51 rfl (fun z51 => ?_)
 refine ap ?_
 refine wk3 1 3 52 rfl ?_
 refine Tr.cn rfl ?_ ?_ <;> intro h10 q10
 refine ac ?_
 refine ac ?_
 · exact ex_in _ (Pr.le_refl _)
 refine ac ?_
 refine ac ?_
 exact Fin.fam_same (k + 1) ⟨hk_k, by omega⟩ ⟨⟨_, rfl, int_succ k⟩, ke rfl, trivial⟩
 have he_k : k = ((List.replicate m (rowQ q)).length) := by have := ge_of_dec h9; omega
 refine ac ?_
 refine ac ?_
 refine ac ?_
 · exact ex_in _ (Pr.le_refl _)
 refine ac ?_
 refine Ch.cs 32 rfl ?_ ?_ <;> intro h11 q11
 refine ac ?_
 refine cy h11 rfl (ok_len rfl Tryz.underlying193 (vl rfl)) ?_
 refine ac ?_
 refine wk2 1 38 rfl ?_
 refine Tr.cn rfl ?_ ?_ <;> intro h12 q12
 refine ac ?_
 refine ac ?_
 · exact ex_in _ (Pr.le_refl _)
 refine ac ?_
 refine ac ?_
 refine Tr.block (Tr.loopw [(1, _)] ⟨ke rfl, trivial⟩ (fun k : Nat => [(3, int ((k : Nat) : Int))]) (fun k : Nat => k ≤ ((List.replicate m (rowQ q)).length)) (fun k : Nat => ((List.replicate m (rowQ q)).length) - k) 0 (Nat.zero_le _) ⟨ke rfl, trivial⟩ ?_)
 rintro k hle_k
 refine ac ?_
 refine co rfl (ok_len rfl Tryz.underlying193 (vl rfl)) ?_
 refine ac ?_
 refine Tr.cn rfl ?_ ?_ <;> intro h13 q13
 have hk_k : k < ((List.replicate m (rowQ q)).length) := lt_of_dec h13
 have hkm : k < m := by simpa using hk_k
 have ih2 := ih.resolve_left (by omega)
 refine ac ?_
 refine ap ?_
 refine tp rfl (ok_indexAddr rfl Tryz.underlying193 sz195 (vl rfl) (vl rfl) (by omega) (rep_at hkm)) (tp rfl (ok_loadA rfl agg195 sz195 (vl rfl) rfl rfl) (tp rfl (kc1 (ih2) rfl rfl) ?_))
 refine TO.ex 51 rfl (fun z51 => ?_)
 refine ap ?_
 refine wk3 1 3 52 rfl ?_
 refine Tr.cn rfl ?_ ?_ <;> intro h14 q14
 refine ac ?_
 refine ac ?_
 · exact ex_in _ (Pr.le_refl _)
 refine ac ?_
 refine ac ?_
 exact Fin.fam_same (k + 1) ⟨hk_k, by omega⟩ ⟨⟨_, rfl, int_succ k⟩, ke rfl, trivial⟩
 have he_k : k = ((List.replicate m (rowQ q)).length) := by have := ge_of_dec h13; omega
 refine ac ?_
 refine ac ?_
 refine ac ?_
 · exact ex_in _ (Pr.le_refl _)
 refine ac ?_
 refine wk2 1 38 rfl ?_
 refine ac ?_
 refine ac ?_
 refine Tr.block (Tr.loopw [(1, _)] ⟨ke rfl, trivial⟩ (fun k : Nat => [(3, int ((k : Nat) : Int))]) (fun k : Nat => k ≤ ((List.replicate m (rowQ q)).length)) (fun k : Nat => ((List.replicate m (rowQ q)).length) - k) 0 (Nat.zero_le _) ⟨ke rfl, trivial⟩ ?_)
 rintro k hle_k
 refine ac ?_
 refine co rfl (ok_len rfl Tryz.underlying193 (vl rfl)) ?_
 refine ac ?_
 refine Tr.cn rfl ?_ ?_ <;> intro h15 q15
 have hk_k : k < ((List.replicate m (rowQ q)).length) := lt_of_dec h15
 have hkm : k < m := by simpa using hk_k
 have ih2 := ih.resolve_left (by omega)
 refine ac ?_
 refine ap ?_
 refine tp rfl (ok_indexAddr rfl Tryz.underlying193 sz195 (vl rfl) (vl rfl) (by omega) (rep_at hkm)) (tp rfl (ok_loadA rfl agg195 sz195 (vl rfl) rfl rfl) (tp rfl (kc1 (ih2) rfl rfl) ?_))
 refine TO.ex 51 rfl (fun z51 => ?_)
 refine ap ?_
 refine wk3 1 3 52 rfl ?_
 refine Tr.cn rfl ?_ ?_ <;> intro h16 q16
 refine ac ?_
 refine ac ?_
 · exact ex_in _ (Pr.le_refl _)
 refine ac ?_
 refine ac ?_
 exact Fin.fam_same (k + 1) ⟨hk_k, by omega⟩ ⟨⟨_, rfl, int_succ k⟩, ke rfl, trivial⟩
 have he_k : k = ((List.replicate m (rowQ q)).length) := by have := ge_of_dec h15; omega
 refine ac ?_
 refine ac ?_
 refine ac ?_
 · exact ex_in _ (Pr.le_refl _)
theorem w_rdepth {t : Int} {b : Nat} {n : Bool} {m : Nat} {q : Pr} {D : Nat}  (hb : b ≤ 1000) (hm : m ≤ 20) (hD : D ≤ 1000) (ih : m = 0 ∨ Fun Tryz.prog 211 [agg (rowQ q)] (depthE D)) : Fun Tryz.prog 211 [agg [int t, bts b, bool n, slice 4 (List.replicate m (rowQ q))]] (depthE (D + 1)) := by
 refine fo Tryz.func211 rfl ⟨rfl, rfl⟩ fun M0 w0 => ?_
 have hlr : (List.replicate m (rowQ q)).length = m := List.length_replicate
 have hlb : (List.replicate b u8R).length = b := List.length_replicate
 refine ac ?_
 refine ac ?_
 refine ac ?_
 refine Tr.block (Tr.loopw [(1, _)] ⟨ke rfl, trivial⟩ (fun k : Nat => [(4, int ((k : Nat) : Int)), (3, depthE D)]) (fun k : Nat => k ≤ ((List.replicate m (rowQ q)).length)) (fun k : Nat => ((List.replicate m (rowQ q)).length) - k) 0 (Nat.zero_le _) ⟨ke rfl, ⟨_, rfl, ex_in 0 (fact_in (by omega) (Pr.le_refl _))⟩, trivial⟩ ?_)
 rintro k hle_k
 refine ac ?_
 refine co rfl (ok_len rfl Tryz.underlying193 (vl rfl)) ?_
 refine ac ?_
 refine Tr.cn rfl ?_ ?_ <;> intro h1 q1
 have hk_k : k < ((List.replicate m (rowQ q)).length) := lt_of_dec h1
 have hkm : k < m := by simpa using hk_k
 have ih2 := ih.resolve_left (by omega)
 refine ac ?_
 refine ap ?_
 refine TO.ex 12 rfl (fun z12 => TO.fact 12 rfl fun hz12 => ?_)
 refine ap ?_
 refine tp rfl (ok_indexAddr rfl Tryz.underlying193 sz195 (vl rfl) (vl rfl) (by omega) (rep_at hkm)) (tp rfl (ok_loadA rfl agg195 sz195 (vl rfl) rfl rfl) (tp rfl (kc1 (ih2) rfl rfl) ?_))
 refine TO.ex 18 rfl (fun z18 => TO.fact 18 rfl fun hz18 => ?_)
 refine tp rfl (ok_max rfl (vl rfl) (vl rfl)) ?_
 refine ap ?_
 refine wk3 1 3 4 rfl ?_
 refine ac ?_
 exact Fin.fam_same (k + 1) ⟨hk_k, by omega⟩ ⟨⟨_, rfl, int_succ k⟩, ⟨_, rfl, ex_in _ (fact_in (by omega) (Pr.le_refl _))⟩, ke rfl, trivial⟩
 have he_k : k = ((List.replicate m (rowQ q)).length) := by have := ge_of_dec h1; omega
 refine ac ?_
 refine ap ?_
 refine TO.ex 20 rfl (fun z20 => TO.fact 20 rfl fun hz20 => ?_)
 refine ap ?_
 refine ac ?_
 · exact ex_in _ (fact_in (by omega) (Pr.le_refl _))
/-- How many digits to the base 256. -/
def digC (n : Nat) : Nat := if h : n = 0 then 0 else 1 + digC (n / 256)
termination_by n
decreasing_by omega
theorem digC_zero : digC 0 = 0 := by unfold digC; simp
theorem digC_pos {n : Nat} (h : 0 < n) : digC n = 1 + digC (n / 256) := by conv => lhs; unfold digC; rw [dif_neg (by omega)]
theorem digC_le : ∀ (n : Nat), digC n ≤ n := by
  intro n
  induction n using Nat.strongRecOn with
  | _ n ih =>
    rcases Nat.eq_zero_or_pos n with h | h
    · subst h; rw [digC_zero]; omega
    · rw [digC_pos h]; have := ih (n / 256) (by omega); omega
def lenC (n : Nat) : Nat := if n < 128 then 1 else 1 + digC n
theorem lenC_le (n : Nat) : lenC n ≤ n + 1 := by unfold lenC; have := digC_le n; split <;> omega
theorem bts_one (k : Int) : Pr.le (slice 1 [[is (.int .u8 k)]]) (bts 1) := bts_of (l := [()]) (f := fun _ => k)

theorem w_rlength {n : Nat} (hn : n ≤ 100000000) : Fun Tryz.prog 248 [int ((n : Nat) : Int)] (bts (lenC n)) := by
 refine fo Tryz.func248 rfl ⟨rfl, rfl⟩ fun M0 w0 => ?_
 refine ac ?_
 refine ac ?_
 refine Tr.cn rfl ?_ ?_ <;> intro h1 q1
 refine ac ?_
 refine co rfl (ok_conv rfl Tryz.underlying3 Tryz.underlying5 (vl rfl)) (co rfl (ok_buildSlice (xs := [.tmp 7]) (rows := [u8R]) rfl rfl Tryz.underlying176 sz5 z5 rfl (by decide) ⟨⟨(by exact rfl), VL.le (vl rfl) (Pr.le_trans (is_anyK _ _) (one_cellsP _))⟩, trivial⟩ (by decide)) ?_)
 refine ac ?_
 refine ac ?_
 · refine Pr.le_trans (full_le _ _) (Pr.le_of_eq ?_); unfold lenC; rw [if_pos (by omega)]; rfl
 refine ac ?_
 refine ac ?_
 refine Tr.seq (Tr.block (Tr.addnil 5 1 (Tr.loopD2V1 [] trivial (fun (k : Nat) (acc : Nat) v => [(0, int ((k : Nat) : Int)), (3, andIs v (bts acc))]) (fun (k : Nat) (acc : Nat) v => Hp M0 w0 noS ([appRes 5 1 v])) (fun (k : Nat) (acc : Nat) => digC k + acc = digC n ∧ k ≤ n) (fun (k : Nat) (acc : Nat) => k) (n) (0) (.slice none 0 0) (⟨by omega, by omega⟩) ⟨ke rfl, ⟨_, rfl, own_nil rfl⟩, trivial⟩ (fun _ _ h => h) ?_)))
 rintro k acc v ⟨hk1, hk2⟩
 refine ac ?_
 refine Tr.cn rfl ?_ ?_ <;> intro h2 q2
 have hk0 : 0 < k := by have := Nrm.nrm h2; omega
 have hdg := digC_pos hk0
 have hle := digC_le n
 refine ac ?_
 refine ap ?_
 refine tp rfl (ok_rem rfl (vl rfl) (vl rfl) (by omega)) (tp rfl (ok_conv rfl Tryz.underlying3 Tryz.underlying5 (vl rfl)) (tp rfl (ok_buildSlice (xs := [.tmp 13]) (rows := [u8R]) rfl rfl Tryz.underlying176 sz5 z5 rfl (by decide) ⟨⟨(by exact rfl), VL.le (vl rfl) (Pr.le_trans (is_anyK _ _) (one_cellsP _))⟩, trivial⟩ (by decide)) ?_))
 refine tm rfl (TO.pad ?_)
 refine TO.efs 0 rfl rfl (by decide) (ef_append rfl rfl (by decide) rfl Tryz.underlying176 sz5 by5 z5 rfl (by decide) ⟨_, rfl, full_le _ _⟩ ⟨_, rfl, andIs_le _ _⟩ (by simp only [List.length_append, List.length_replicate, List.length_cons, List.length_nil]; unfold maxLen; omega) (by simp only [List.length_append, List.length_replicate, List.length_cons, List.length_nil]; omega) (appR_full (by exact List.Mem.head _) (vl rfl))) (fun v1 => ?_)
 refine ap ?_
 refine ac ?_
 refine co rfl (ok_quo rfl (vl rfl) (vl rfl) (by omega)) ?_
 refine ac ?_
 refine Fin.drop 1 ?_
 exact Fin.famD2V1 (k / 256) (acc + 1) v1 (⟨⟨by omega, by omega⟩, by omega⟩) ⟨⟨_, rfl, int_eq (by rw [Int.tdiv_eq_ediv_of_nonneg (by omega), wrap_in (by unfold InI; omega)]; omega)⟩, ⟨_, rfl, own_le (by rw [show ([u8R] : List (List Pr)) = List.replicate 1 u8R from rfl, rep_add, Nat.add_comm])⟩, trivial⟩ (fun _ _ h => h)
 have hk0 : k = 0 := by have := Nrm.nrm h2; omega
 subst hk0
 have hle := digC_le n
 rw [digC_zero] at hk1
 refine ac ?_
 refine ap ?_
 refine tp rfl (ok_len rfl Tryz.underlying176 ⟨_, rfl, andIs_le _ _⟩) (tp rfl (ki rfl rfl rfl rfl) (tp rfl (ok_conv rfl Tryz.underlying3 Tryz.underlying5 (vl rfl)) (tp rfl (ok_buildSlice (xs := [.tmp 22]) (rows := [u8R]) rfl rfl Tryz.underlying176 sz5 z5 rfl (by decide) ⟨⟨(by exact rfl), VL.le (vl rfl) (Pr.le_trans (is_anyK _ _) (one_cellsP _))⟩, trivial⟩ (by decide)) ?_)))
 refine tm rfl (TO.pad ?_)
 refine TO.efs 0 rfl rfl (by decide) (ef_append rfl rfl (by decide) rfl Tryz.underlying176 sz5 by5 z5 rfl (by decide) ⟨_, rfl, full_le _ _⟩ ⟨_, rfl, andIs_le _ _⟩ (by simp only [List.length_append, List.length_replicate, List.length_cons, List.length_nil]; unfold maxLen; omega) (by simp only [List.length_append, List.length_replicate, List.length_cons, List.length_nil]; omega) (appR_full (by exact List.Mem.head _) (vl rfl))) (fun v2 => ?_)
 refine ap ?_
 refine ac ?_
 · refine Pr.le_trans (andIs_le _ _) (Pr.le_of_eq ?_); unfold lenC; rw [if_neg (by omega), show ([u8R] : List (List Pr)) = List.replicate 1 u8R from rfl, rep_add, show acc = digC n by omega]
end Go.Proofs.YtflodcidhlmaaaaGreat
