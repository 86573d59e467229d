/-
  What the functions named below compute, proved from their text; printed by a program of our own.
-/
import Derived.Test.YthmnoekgicggnaaGreatTypes
import Derived.Test.YthmnoekgicggnaaGreatSlices
import Derived.Test.YthmnoekgicggnaaGreatEqs
import Derived.Test.YthmnoekgicggnaaGreatCat
namespace Go.Proofs.YthmnoekgicggnaaGreat
open Go Go.RowKit Cp

structure CatRow where
  name : List UInt8
  kind : Int
  way : Int
  sizes : List Int
  strengths : List Int
abbrev rowC (r : CatRow) : List Pr := [str r.name, int r.kind, int r.way, ints r.sizes, ints r.strengths]
def catTable : List CatRow := [⟨[], 0, 0, [], []⟩, ⟨[109, 100, 53], 1, 0, [], [18]⟩, ⟨[115, 104, 97, 49], 1, 0, [], [60]⟩, ⟨[115, 104, 97, 50, 53, 54], 1, 0, [], [128]⟩, ⟨[115, 104, 97, 51, 56, 52], 1, 0, [], [192]⟩, ⟨[114, 115, 97], 2, 1, [], []⟩, ⟨[100, 115, 97], 2, 1, [], []⟩, ⟨[101, 99, 100, 115, 97], 2, 2, [], []⟩, ⟨[101, 100, 50, 53, 53, 49, 57], 2, 0, [], [128]⟩, ⟨[109, 108, 100, 115, 97], 2, 3, [44, 65, 87], [128, 192, 256]⟩, ⟨[114, 115, 97, 107, 120], 3, 1, [], []⟩, ⟨[100, 104, 101], 3, 1, [], []⟩, ⟨[101, 99, 100, 104, 101], 3, 2, [], []⟩, ⟨[109, 108, 107, 101, 109], 3, 3, [512, 768, 1024], [128, 192, 256]⟩, ⟨[114, 99, 52], 4, 3, [40, 128], [40, 60]⟩, ⟨[100, 101, 115, 51], 4, 3, [112, 168], [80, 112]⟩, ⟨[97, 101, 115, 99, 98, 99], 4, 3, [128, 256], [128, 256]⟩, ⟨[97, 101, 115, 103, 99, 109], 4, 3, [128, 256], [128, 256]⟩, ⟨[99, 104, 97, 99, 104, 97], 4, 0, [], [256]⟩, ⟨[104, 109, 97, 99, 109, 100, 53], 5, 0, [], [64]⟩, ⟨[104, 109, 97, 99, 115, 104, 97, 49], 5, 0, [], [80]⟩, ⟨[104, 109, 97, 99, 115, 104, 97, 50, 53, 54], 5, 0, [], [128]⟩, ⟨[97, 101, 97, 100], 5, 0, [], [256]⟩]
def catZero : CatRow := ⟨[], 0, 0, [], []⟩
def catOf (alg : Int) : CatRow := if 1 ≤ alg ∧ alg ≤ 22 then (catTable[alg.toNat]?).getD catZero else catZero
theorem catTable_at {alg : Int} (h : 1 ≤ alg ∧ alg ≤ 22) : catTable[alg.toNat]? = some (catOf alg) := by
  have hl : alg.toNat < catTable.length := by show alg.toNat < 23; omega
  unfold catOf; rw [if_pos h, List.getElem?_eq_getElem hl]; rfl
theorem catOf_mem {alg : Int} (h : 1 ≤ alg ∧ alg ≤ 22) : catOf alg ∈ catTable := List.mem_of_getElem? (catTable_at h)
theorem flat_row {β : Type} {f : β → List Pr} {sz : Nat} (hf : ∀ x, (f x).length = sz) : ∀ {l : List β} {i : Nat} {x : β}, l[i]? = some x → ((l.flatMap f).drop (i * sz)).take sz = f x
  | [], _, _, h => by simp at h
  | a :: l, 0, x, h => by
    simp at h; subst h
    rw [List.flatMap_cons, Nat.zero_mul, List.drop_zero, List.take_append_of_le_length (by rw [hf]; exact Nat.le_refl _), List.take_of_length_le (by rw [hf]; exact Nat.le_refl _)]
  | a :: l, i + 1, x, h => by
    rw [List.flatMap_cons, Nat.succ_mul, Nat.add_comm, ← List.drop_drop, List.drop_left' (hf a)]
    exact flat_row hf (by simpa using h)
theorem drop_cons {β : Type} {l : List β} {k : Nat} {x : β} (h : l[k]? = some x) : l.drop k = x :: l.drop (k + 1) := by
  have hk : k < l.length := by rcases Nat.lt_or_ge k l.length with h' | h'; exact h'; rw [List.getElem?_eq_none h'] at h; cases h
  rw [List.drop_eq_getElem_cons hk]
  rw [List.getElem?_eq_getElem hk] at h
  simp at h; rw [h]
def mods : List (Int × Int) := [(1024, 56), (2048, 80), (3072, 112), (7680, 128), (15360, 192)]
def modF : List (Int × Int) → Int → Int
  | [], _ => 256
  | p :: l, b => if b < p.1 then p.2 else modF l b
def modI (b : Int) : Int := modF mods b

set_option maxRecDepth 20000 in
theorem w_rows   : Fun Tryz.prog 167 [] (agg (catTable.flatMap rowC)) := by
  refine Fun.of Tryz.func167 rfl rfl (by exact Nat.le_of_ble_eq_true rfl) fun M0 w0 => ?_
  refine Tr.seq ?_
  refine Tr.regT ?_
  refine TO.alloc rfl rfl (by decide) rfl z180 zo180 (fun b1 => ?_)
  refine TO.nil ?_
  refine Fin.go ?_
  refine Tr.seq ?_
  refine Tr.regT ?_
  refine TO.op rfl rfl (by decide) (ok_buildSlice (xs := [.const (.int .i64 (18))]) (rows := [[_]]) rfl rfl Tryz.underlying22 sz3 z3 rfl (by decide) ⟨⟨(by exact rfl), (VL.le (vl rfl) (one_cellsP _))⟩, trivial⟩ (by decide)) ?_
  refine TO.op rfl rfl (by decide) (ok_build (rows := [(0, [_]), (1, [_]), (2, [_]), (3, [_]), (4, [_])]) rfl bl170 zo170 ⟨⟨rfl, (VL.le (vl rfl) (one_cellsP _))⟩, ⟨⟨rfl, (VL.le (vl rfl) (one_cellsP _))⟩, ⟨⟨rfl, (VL.le (vl rfl) (one_cellsP _))⟩, ⟨⟨rfl, ⟨_, rfl, Pr.le_trans (nil_slice 1) (one_cellsP _)⟩⟩, ⟨⟨rfl, ⟨_, rfl, Pr.le_trans (full_le _ _) (one_cellsP _)⟩⟩, trivial⟩⟩⟩⟩⟩ rfl) ?_
  refine TO.op rfl rfl (by decide) (ok_buildSlice (xs := [.const (.int .i64 (60))]) (rows := [[_]]) rfl rfl Tryz.underlying22 sz3 z3 rfl (by decide) ⟨⟨(by exact rfl), (VL.le (vl rfl) (one_cellsP _))⟩, trivial⟩ (by decide)) ?_
  refine TO.op rfl rfl (by decide) (ok_build (rows := [(0, [_]), (1, [_]), (2, [_]), (3, [_]), (4, [_])]) rfl bl170 zo170 ⟨⟨rfl, (VL.le (vl rfl) (one_cellsP _))⟩, ⟨⟨rfl, (VL.le (vl rfl) (one_cellsP _))⟩, ⟨⟨rfl, (VL.le (vl rfl) (one_cellsP _))⟩, ⟨⟨rfl, ⟨_, rfl, Pr.le_trans (nil_slice 1) (one_cellsP _)⟩⟩, ⟨⟨rfl, ⟨_, rfl, Pr.le_trans (full_le _ _) (one_cellsP _)⟩⟩, trivial⟩⟩⟩⟩⟩ rfl) ?_
  refine TO.op rfl rfl (by decide) (ok_buildSlice (xs := [.const (.int .i64 (128))]) (rows := [[_]]) rfl rfl Tryz.underlying22 sz3 z3 rfl (by decide) ⟨⟨(by exact rfl), (VL.le (vl rfl) (one_cellsP _))⟩, trivial⟩ (by decide)) ?_
  refine TO.op rfl rfl (by decide) (ok_build (rows := [(0, [_]), (1, [_]), (2, [_]), (3, [_]), (4, [_])]) rfl bl170 zo170 ⟨⟨rfl, (VL.le (vl rfl) (one_cellsP _))⟩, ⟨⟨rfl, (VL.le (vl rfl) (one_cellsP _))⟩, ⟨⟨rfl, (VL.le (vl rfl) (one_cellsP _))⟩, ⟨⟨rfl, ⟨_, rfl, Pr.le_trans (nil_slice 1) (one_cellsP _)⟩⟩, ⟨⟨rfl, ⟨_, rfl, Pr.le_trans (full_le _ _) (one_cellsP _)⟩⟩, trivial⟩⟩⟩⟩⟩ rfl) ?_
  refine TO.op rfl rfl (by decide) (ok_buildSlice (xs := [.const (.int .i64 (192))]) (rows := [[_]]) rfl rfl Tryz.underlying22 sz3 z3 rfl (by decide) ⟨⟨(by exact rfl), (VL.le (vl rfl) (one_cellsP _))⟩, trivial⟩ (by decide)) ?_
  refine TO.op rfl rfl (by decide) (ok_build (rows := [(0, [_]), (1, [_]), (2, [_]), (3, [_]), (4, [_])]) rfl bl170 zo170 ⟨⟨rfl, (VL.le (vl rfl) (one_cellsP _))⟩, ⟨⟨rfl, (VL.le (vl rfl) (one_cellsP _))⟩, ⟨⟨rfl, (VL.le (vl rfl) (one_cellsP _))⟩, ⟨⟨rfl, ⟨_, rfl, Pr.le_trans (nil_slice 1) (one_cellsP _)⟩⟩, ⟨⟨rfl, ⟨_, rfl, Pr.le_trans (full_le _ _) (one_cellsP _)⟩⟩, trivial⟩⟩⟩⟩⟩ rfl) ?_
  refine TO.op rfl rfl (by decide) (ok_build (rows := [(0, [_]), (1, [_]), (2, [_]), (3, [_]), (4, [_])]) rfl bl170 zo170 ⟨⟨rfl, (VL.le (vl rfl) (one_cellsP _))⟩, ⟨⟨rfl, (VL.le (vl rfl) (one_cellsP _))⟩, ⟨⟨rfl, (VL.le (vl rfl) (one_cellsP _))⟩, ⟨⟨rfl, ⟨_, rfl, Pr.le_trans (nil_slice 1) (one_cellsP _)⟩⟩, ⟨⟨rfl, ⟨_, rfl, Pr.le_trans (nil_slice 1) (one_cellsP _)⟩⟩, trivial⟩⟩⟩⟩⟩ rfl) ?_
  refine TO.op rfl rfl (by decide) (ok_build (rows := [(0, [_]), (1, [_]), (2, [_]), (3, [_]), (4, [_])]) rfl bl170 zo170 ⟨⟨rfl, (VL.le (vl rfl) (one_cellsP _))⟩, ⟨⟨rfl, (VL.le (vl rfl) (one_cellsP _))⟩, ⟨⟨rfl, (VL.le (vl rfl) (one_cellsP _))⟩, ⟨⟨rfl, ⟨_, rfl, Pr.le_trans (nil_slice 1) (one_cellsP _)⟩⟩, ⟨⟨rfl, ⟨_, rfl, Pr.le_trans (nil_slice 1) (one_cellsP _)⟩⟩, trivial⟩⟩⟩⟩⟩ rfl) ?_
  refine TO.op rfl rfl (by decide) (ok_build (rows := [(0, [_]), (1, [_]), (2, [_]), (3, [_]), (4, [_])]) rfl bl170 zo170 ⟨⟨rfl, (VL.le (vl rfl) (one_cellsP _))⟩, ⟨⟨rfl, (VL.le (vl rfl) (one_cellsP _))⟩, ⟨⟨rfl, (VL.le (vl rfl) (one_cellsP _))⟩, ⟨⟨rfl, ⟨_, rfl, Pr.le_trans (nil_slice 1) (one_cellsP _)⟩⟩, ⟨⟨rfl, ⟨_, rfl, Pr.le_trans (nil_slice 1) (one_cellsP _)⟩⟩, trivial⟩⟩⟩⟩⟩ rfl) ?_
  refine TO.op rfl rfl (by decide) (ok_buildSlice (xs := [.const (.int .i64 (128))]) (rows := [[_]]) rfl rfl Tryz.underlying22 sz3 z3 rfl (by decide) ⟨⟨(by exact rfl), (VL.le (vl rfl) (one_cellsP _))⟩, trivial⟩ (by decide)) ?_
  refine TO.op rfl rfl (by decide) (ok_build (rows := [(0, [_]), (1, [_]), (2, [_]), (3, [_]), (4, [_])]) rfl bl170 zo170 ⟨⟨rfl, (VL.le (vl rfl) (one_cellsP _))⟩, ⟨⟨rfl, (VL.le (vl rfl) (one_cellsP _))⟩, ⟨⟨rfl, (VL.le (vl rfl) (one_cellsP _))⟩, ⟨⟨rfl, ⟨_, rfl, Pr.le_trans (nil_slice 1) (one_cellsP _)⟩⟩, ⟨⟨rfl, ⟨_, rfl, Pr.le_trans (full_le _ _) (one_cellsP _)⟩⟩, trivial⟩⟩⟩⟩⟩ rfl) ?_
  refine TO.op rfl rfl (by decide) (ok_buildSlice (xs := [.const (.int .i64 (44)), .const (.int .i64 (65)), .const (.int .i64 (87))]) (rows := [[_], [_], [_]]) rfl rfl Tryz.underlying22 sz3 z3 rfl (by decide) ⟨⟨(by exact rfl), (VL.le (vl rfl) (one_cellsP _))⟩, ⟨⟨(by exact rfl), (VL.le (vl rfl) (one_cellsP _))⟩, ⟨⟨(by exact rfl), (VL.le (vl rfl) (one_cellsP _))⟩, trivial⟩⟩⟩ (by decide)) ?_
  refine TO.op rfl rfl (by decide) (ok_buildSlice (xs := [.const (.int .i64 (128)), .const (.int .i64 (192)), .const (.int .i64 (256))]) (rows := [[_], [_], [_]]) rfl rfl Tryz.underlying22 sz3 z3 rfl (by decide) ⟨⟨(by exact rfl), (VL.le (vl rfl) (one_cellsP _))⟩, ⟨⟨(by exact rfl), (VL.le (vl rfl) (one_cellsP _))⟩, ⟨⟨(by exact rfl), (VL.le (vl rfl) (one_cellsP _))⟩, trivial⟩⟩⟩ (by decide)) ?_
  refine TO.op rfl rfl (by decide) (ok_build (rows := [(0, [_]), (1, [_]), (2, [_]), (3, [_]), (4, [_])]) rfl bl170 zo170 ⟨⟨rfl, (VL.le (vl rfl) (one_cellsP _))⟩, ⟨⟨rfl, (VL.le (vl rfl) (one_cellsP _))⟩, ⟨⟨rfl, (VL.le (vl rfl) (one_cellsP _))⟩, ⟨⟨rfl, ⟨_, rfl, Pr.le_trans (full_le _ _) (one_cellsP _)⟩⟩, ⟨⟨rfl, ⟨_, rfl, Pr.le_trans (full_le _ _) (one_cellsP _)⟩⟩, trivial⟩⟩⟩⟩⟩ rfl) ?_
  refine TO.op rfl rfl (by decide) (ok_build (rows := [(0, [_]), (1, [_]), (2, [_]), (3, [_]), (4, [_])]) rfl bl170 zo170 ⟨⟨rfl, (VL.le (vl rfl) (one_cellsP _))⟩, ⟨⟨rfl, (VL.le (vl rfl) (one_cellsP _))⟩, ⟨⟨rfl, (VL.le (vl rfl) (one_cellsP _))⟩, ⟨⟨rfl, ⟨_, rfl, Pr.le_trans (nil_slice 1) (one_cellsP _)⟩⟩, ⟨⟨rfl, ⟨_, rfl, Pr.le_trans (nil_slice 1) (one_cellsP _)⟩⟩, trivial⟩⟩⟩⟩⟩ rfl) ?_
  refine TO.op rfl rfl (by decide) (ok_build (rows := [(0, [_]), (1, [_]), (2, [_]), (3, [_]), (4, [_])]) rfl bl170 zo170 ⟨⟨rfl, (VL.le (vl rfl) (one_cellsP _))⟩, ⟨⟨rfl, (VL.le (vl rfl) (one_cellsP _))⟩, ⟨⟨rfl, (VL.le (vl rfl) (one_cellsP _))⟩, ⟨⟨rfl, ⟨_, rfl, Pr.le_trans (nil_slice 1) (one_cellsP _)⟩⟩, ⟨⟨rfl, ⟨_, rfl, Pr.le_trans (nil_slice 1) (one_cellsP _)⟩⟩, trivial⟩⟩⟩⟩⟩ rfl) ?_
  refine TO.op rfl rfl (by decide) (ok_build (rows := [(0, [_]), (1, [_]), (2, [_]), (3, [_]), (4, [_])]) rfl bl170 zo170 ⟨⟨rfl, (VL.le (vl rfl) (one_cellsP _))⟩, ⟨⟨rfl, (VL.le (vl rfl) (one_cellsP _))⟩, ⟨⟨rfl, (VL.le (vl rfl) (one_cellsP _))⟩, ⟨⟨rfl, ⟨_, rfl, Pr.le_trans (nil_slice 1) (one_cellsP _)⟩⟩, ⟨⟨rfl, ⟨_, rfl, Pr.le_trans (nil_slice 1) (one_cellsP _)⟩⟩, trivial⟩⟩⟩⟩⟩ rfl) ?_
  refine TO.op rfl rfl (by decide) (ok_buildSlice (xs := [.const (.int .i64 (512)), .const (.int .i64 (768)), .const (.int .i64 (1024))]) (rows := [[_], [_], [_]]) rfl rfl Tryz.underlying22 sz3 z3 rfl (by decide) ⟨⟨(by exact rfl), (VL.le (vl rfl) (one_cellsP _))⟩, ⟨⟨(by exact rfl), (VL.le (vl rfl) (one_cellsP _))⟩, ⟨⟨(by exact rfl), (VL.le (vl rfl) (one_cellsP _))⟩, trivial⟩⟩⟩ (by decide)) ?_
  refine TO.op rfl rfl (by decide) (ok_buildSlice (xs := [.const (.int .i64 (128)), .const (.int .i64 (192)), .const (.int .i64 (256))]) (rows := [[_], [_], [_]]) rfl rfl Tryz.underlying22 sz3 z3 rfl (by decide) ⟨⟨(by exact rfl), (VL.le (vl rfl) (one_cellsP _))⟩, ⟨⟨(by exact rfl), (VL.le (vl rfl) (one_cellsP _))⟩, ⟨⟨(by exact rfl), (VL.le (vl rfl) (one_cellsP _))⟩, trivial⟩⟩⟩ (by decide)) ?_
  refine TO.op rfl rfl (by decide) (ok_build (rows := [(0, [_]), (1, [_]), (2, [_]), (3, [_]), (4, [_])]) rfl bl170 zo170 ⟨⟨rfl, (VL.le (vl rfl) (one_cellsP _))⟩, ⟨⟨rfl, (VL.le (vl rfl) (one_cellsP _))⟩, ⟨⟨rfl, (VL.le (vl rfl) (one_cellsP _))⟩, ⟨⟨rfl, ⟨_, rfl, Pr.le_trans (full_le _ _) (one_cellsP _)⟩⟩, ⟨⟨rfl, ⟨_, rfl, Pr.le_trans (full_le _ _) (one_cellsP _)⟩⟩, trivial⟩⟩⟩⟩⟩ rfl) ?_
  refine TO.op rfl rfl (by decide) (ok_buildSlice (xs := [.const (.int .i64 (40)), .const (.int .i64 (128))]) (rows := [[_], [_]]) rfl rfl Tryz.underlying22 sz3 z3 rfl (by decide) ⟨⟨(by exact rfl), (VL.le (vl rfl) (one_cellsP _))⟩, ⟨⟨(by exact rfl), (VL.le (vl rfl) (one_cellsP _))⟩, trivial⟩⟩ (by decide)) ?_
  refine TO.op rfl rfl (by decide) (ok_buildSlice (xs := [.const (.int .i64 (40)), .const (.int .i64 (60))]) (rows := [[_], [_]]) rfl rfl Tryz.underlying22 sz3 z3 rfl (by decide) ⟨⟨(by exact rfl), (VL.le (vl rfl) (one_cellsP _))⟩, ⟨⟨(by exact rfl), (VL.le (vl rfl) (one_cellsP _))⟩, trivial⟩⟩ (by decide)) ?_
  refine TO.op rfl rfl (by decide) (ok_build (rows := [(0, [_]), (1, [_]), (2, [_]), (3, [_]), (4, [_])]) rfl bl170 zo170 ⟨⟨rfl, (VL.le (vl rfl) (one_cellsP _))⟩, ⟨⟨rfl, (VL.le (vl rfl) (one_cellsP _))⟩, ⟨⟨rfl, (VL.le (vl rfl) (one_cellsP _))⟩, ⟨⟨rfl, ⟨_, rfl, Pr.le_trans (full_le _ _) (one_cellsP _)⟩⟩, ⟨⟨rfl, ⟨_, rfl, Pr.le_trans (full_le _ _) (one_cellsP _)⟩⟩, trivial⟩⟩⟩⟩⟩ rfl) ?_
  refine TO.op rfl rfl (by decide) (ok_buildSlice (xs := [.const (.int .i64 (112)), .const (.int .i64 (168))]) (rows := [[_], [_]]) rfl rfl Tryz.underlying22 sz3 z3 rfl (by decide) ⟨⟨(by exact rfl), (VL.le (vl rfl) (one_cellsP _))⟩, ⟨⟨(by exact rfl), (VL.le (vl rfl) (one_cellsP _))⟩, trivial⟩⟩ (by decide)) ?_
  refine TO.op rfl rfl (by decide) (ok_buildSlice (xs := [.const (.int .i64 (80)), .const (.int .i64 (112))]) (rows := [[_], [_]]) rfl rfl Tryz.underlying22 sz3 z3 rfl (by decide) ⟨⟨(by exact rfl), (VL.le (vl rfl) (one_cellsP _))⟩, ⟨⟨(by exact rfl), (VL.le (vl rfl) (one_cellsP _))⟩, trivial⟩⟩ (by decide)) ?_
  refine TO.op rfl rfl (by decide) (ok_build (rows := [(0, [_]), (1, [_]), (2, [_]), (3, [_]), (4, [_])]) rfl bl170 zo170 ⟨⟨rfl, (VL.le (vl rfl) (one_cellsP _))⟩, ⟨⟨rfl, (VL.le (vl rfl) (one_cellsP _))⟩, ⟨⟨rfl, (VL.le (vl rfl) (one_cellsP _))⟩, ⟨⟨rfl, ⟨_, rfl, Pr.le_trans (full_le _ _) (one_cellsP _)⟩⟩, ⟨⟨rfl, ⟨_, rfl, Pr.le_trans (full_le _ _) (one_cellsP _)⟩⟩, trivial⟩⟩⟩⟩⟩ rfl) ?_
  refine TO.op rfl rfl (by decide) (ok_buildSlice (xs := [.const (.int .i64 (128)), .const (.int .i64 (256))]) (rows := [[_], [_]]) rfl rfl Tryz.underlying22 sz3 z3 rfl (by decide) ⟨⟨(by exact rfl), (VL.le (vl rfl) (one_cellsP _))⟩, ⟨⟨(by exact rfl), (VL.le (vl rfl) (one_cellsP _))⟩, trivial⟩⟩ (by decide)) ?_
  refine TO.op rfl rfl (by decide) (ok_buildSlice (xs := [.const (.int .i64 (128)), .const (.int .i64 (256))]) (rows := [[_], [_]]) rfl rfl Tryz.underlying22 sz3 z3 rfl (by decide) ⟨⟨(by exact rfl), (VL.le (vl rfl) (one_cellsP _))⟩, ⟨⟨(by exact rfl), (VL.le (vl rfl) (one_cellsP _))⟩, trivial⟩⟩ (by decide)) ?_
  refine TO.op rfl rfl (by decide) (ok_build (rows := [(0, [_]), (1, [_]), (2, [_]), (3, [_]), (4, [_])]) rfl bl170 zo170 ⟨⟨rfl, (VL.le (vl rfl) (one_cellsP _))⟩, ⟨⟨rfl, (VL.le (vl rfl) (one_cellsP _))⟩, ⟨⟨rfl, (VL.le (vl rfl) (one_cellsP _))⟩, ⟨⟨rfl, ⟨_, rfl, Pr.le_trans (full_le _ _) (one_cellsP _)⟩⟩, ⟨⟨rfl, ⟨_, rfl, Pr.le_trans (full_le _ _) (one_cellsP _)⟩⟩, trivial⟩⟩⟩⟩⟩ rfl) ?_
  refine TO.op rfl rfl (by decide) (ok_buildSlice (xs := [.const (.int .i64 (128)), .const (.int .i64 (256))]) (rows := [[_], [_]]) rfl rfl Tryz.underlying22 sz3 z3 rfl (by decide) ⟨⟨(by exact rfl), (VL.le (vl rfl) (one_cellsP _))⟩, ⟨⟨(by exact rfl), (VL.le (vl rfl) (one_cellsP _))⟩, trivial⟩⟩ (by decide)) ?_
  refine TO.op rfl rfl (by decide) (ok_buildSlice (xs := [.const (.int .i64 (128)), .const (.int .i64 (256))]) (rows := [[_], [_]]) rfl rfl Tryz.underlying22 sz3 z3 rfl (by decide) ⟨⟨(by exact rfl), (VL.le (vl rfl) (one_cellsP _))⟩, ⟨⟨(by exact rfl), (VL.le (vl rfl) (one_cellsP _))⟩, trivial⟩⟩ (by decide)) ?_
  refine TO.op rfl rfl (by decide) (ok_build (rows := [(0, [_]), (1, [_]), (2, [_]), (3, [_]), (4, [_])]) rfl bl170 zo170 ⟨⟨rfl, (VL.le (vl rfl) (one_cellsP _))⟩, ⟨⟨rfl, (VL.le (vl rfl) (one_cellsP _))⟩, ⟨⟨rfl, (VL.le (vl rfl) (one_cellsP _))⟩, ⟨⟨rfl, ⟨_, rfl, Pr.le_trans (full_le _ _) (one_cellsP _)⟩⟩, ⟨⟨rfl, ⟨_, rfl, Pr.le_trans (full_le _ _) (one_cellsP _)⟩⟩, trivial⟩⟩⟩⟩⟩ rfl) ?_
  refine TO.op rfl rfl (by decide) (ok_buildSlice (xs := [.const (.int .i64 (256))]) (rows := [[_]]) rfl rfl Tryz.underlying22 sz3 z3 rfl (by decide) ⟨⟨(by exact rfl), (VL.le (vl rfl) (one_cellsP _))⟩, trivial⟩ (by decide)) ?_
  refine TO.op rfl rfl (by decide) (ok_build (rows := [(0, [_]), (1, [_]), (2, [_]), (3, [_]), (4, [_])]) rfl bl170 zo170 ⟨⟨rfl, (VL.le (vl rfl) (one_cellsP _))⟩, ⟨⟨rfl, (VL.le (vl rfl) (one_cellsP _))⟩, ⟨⟨rfl, (VL.le (vl rfl) (one_cellsP _))⟩, ⟨⟨rfl, ⟨_, rfl, Pr.le_trans (nil_slice 1) (one_cellsP _)⟩⟩, ⟨⟨rfl, ⟨_, rfl, Pr.le_trans (full_le _ _) (one_cellsP _)⟩⟩, trivial⟩⟩⟩⟩⟩ rfl) ?_
  refine TO.op rfl rfl (by decide) (ok_buildSlice (xs := [.const (.int .i64 (64))]) (rows := [[_]]) rfl rfl Tryz.underlying22 sz3 z3 rfl (by decide) ⟨⟨(by exact rfl), (VL.le (vl rfl) (one_cellsP _))⟩, trivial⟩ (by decide)) ?_
  refine TO.op rfl rfl (by decide) (ok_build (rows := [(0, [_]), (1, [_]), (2, [_]), (3, [_]), (4, [_])]) rfl bl170 zo170 ⟨⟨rfl, (VL.le (vl rfl) (one_cellsP _))⟩, ⟨⟨rfl, (VL.le (vl rfl) (one_cellsP _))⟩, ⟨⟨rfl, (VL.le (vl rfl) (one_cellsP _))⟩, ⟨⟨rfl, ⟨_, rfl, Pr.le_trans (nil_slice 1) (one_cellsP _)⟩⟩, ⟨⟨rfl, ⟨_, rfl, Pr.le_trans (full_le _ _) (one_cellsP _)⟩⟩, trivial⟩⟩⟩⟩⟩ rfl) ?_
  refine TO.op rfl rfl (by decide) (ok_buildSlice (xs := [.const (.int .i64 (80))]) (rows := [[_]]) rfl rfl Tryz.underlying22 sz3 z3 rfl (by decide) ⟨⟨(by exact rfl), (VL.le (vl rfl) (one_cellsP _))⟩, trivial⟩ (by decide)) ?_
  refine TO.op rfl rfl (by decide) (ok_build (rows := [(0, [_]), (1, [_]), (2, [_]), (3, [_]), (4, [_])]) rfl bl170 zo170 ⟨⟨rfl, (VL.le (vl rfl) (one_cellsP _))⟩, ⟨⟨rfl, (VL.le (vl rfl) (one_cellsP _))⟩, ⟨⟨rfl, (VL.le (vl rfl) (one_cellsP _))⟩, ⟨⟨rfl, ⟨_, rfl, Pr.le_trans (nil_slice 1) (one_cellsP _)⟩⟩, ⟨⟨rfl, ⟨_, rfl, Pr.le_trans (full_le _ _) (one_cellsP _)⟩⟩, trivial⟩⟩⟩⟩⟩ rfl) ?_
  refine TO.op rfl rfl (by decide) (ok_buildSlice (xs := [.const (.int .i64 (128))]) (rows := [[_]]) rfl rfl Tryz.underlying22 sz3 z3 rfl (by decide) ⟨⟨(by exact rfl), (VL.le (vl rfl) (one_cellsP _))⟩, trivial⟩ (by decide)) ?_
  refine TO.op rfl rfl (by decide) (ok_build (rows := [(0, [_]), (1, [_]), (2, [_]), (3, [_]), (4, [_])]) rfl bl170 zo170 ⟨⟨rfl, (VL.le (vl rfl) (one_cellsP _))⟩, ⟨⟨rfl, (VL.le (vl rfl) (one_cellsP _))⟩, ⟨⟨rfl, (VL.le (vl rfl) (one_cellsP _))⟩, ⟨⟨rfl, ⟨_, rfl, Pr.le_trans (nil_slice 1) (one_cellsP _)⟩⟩, ⟨⟨rfl, ⟨_, rfl, Pr.le_trans (full_le _ _) (one_cellsP _)⟩⟩, trivial⟩⟩⟩⟩⟩ rfl) ?_
  refine TO.op rfl rfl (by decide) (ok_buildSlice (xs := [.const (.int .i64 (256))]) (rows := [[_]]) rfl rfl Tryz.underlying22 sz3 z3 rfl (by decide) ⟨⟨(by exact rfl), (VL.le (vl rfl) (one_cellsP _))⟩, trivial⟩ (by decide)) ?_
  refine TO.op rfl rfl (by decide) (ok_build (rows := [(0, [_]), (1, [_]), (2, [_]), (3, [_]), (4, [_])]) rfl bl170 zo170 ⟨⟨rfl, (VL.le (vl rfl) (one_cellsP _))⟩, ⟨⟨rfl, (VL.le (vl rfl) (one_cellsP _))⟩, ⟨⟨rfl, (VL.le (vl rfl) (one_cellsP _))⟩, ⟨⟨rfl, ⟨_, rfl, Pr.le_trans (nil_slice 1) (one_cellsP _)⟩⟩, ⟨⟨rfl, ⟨_, rfl, Pr.le_trans (full_le _ _) (one_cellsP _)⟩⟩, trivial⟩⟩⟩⟩⟩ rfl) ?_
  refine TO.op rfl rfl (by decide) (ok_build (rows := [(1, _), (2, _), (3, _), (4, _), (5, _), (6, _), (7, _), (8, _), (9, _), (10, _), (11, _), (12, _), (13, _), (14, _), (15, _), (16, _), (17, _), (18, _), (19, _), (20, _), (21, _), (22, _)]) rfl bl180 zo180 ⟨⟨rfl, (VL.le (vl rfl) (agg_cellsP _))⟩, ⟨⟨rfl, (VL.le (vl rfl) (agg_cellsP _))⟩, ⟨⟨rfl, (VL.le (vl rfl) (agg_cellsP _))⟩, ⟨⟨rfl, (VL.le (vl rfl) (agg_cellsP _))⟩, ⟨⟨rfl, (VL.le (vl rfl) (agg_cellsP _))⟩, ⟨⟨rfl, (VL.le (vl rfl) (agg_cellsP _))⟩, ⟨⟨rfl, (VL.le (vl rfl) (agg_cellsP _))⟩, ⟨⟨rfl, (VL.le (vl rfl) (agg_cellsP _))⟩, ⟨⟨rfl, (VL.le (vl rfl) (agg_cellsP _))⟩, ⟨⟨rfl, (VL.le (vl rfl) (agg_cellsP _))⟩, ⟨⟨rfl, (VL.le (vl rfl) (agg_cellsP _))⟩, ⟨⟨rfl, (VL.le (vl rfl) (agg_cellsP _))⟩, ⟨⟨rfl, (VL.le (vl rfl) (agg_cellsP _))⟩, ⟨⟨rfl, (VL.le (vl rfl) (agg_cellsP _))⟩, ⟨⟨rfl, (VL.le (vl rfl) (agg_cellsP _))⟩, ⟨⟨rfl, (VL.le (vl rfl) (agg_cellsP _))⟩, ⟨⟨rfl, (VL.le (vl rfl) (agg_cellsP _))⟩, ⟨⟨rfl, (VL.le (vl rfl) (agg_cellsP _))⟩, ⟨⟨rfl, (VL.le (vl rfl) (agg_cellsP _))⟩, ⟨⟨rfl, (VL.le (vl rfl) (agg_cellsP _))⟩, ⟨⟨rfl, (VL.le (vl rfl) (agg_cellsP _))⟩, ⟨⟨rfl, (VL.le (vl rfl) (agg_cellsP _))⟩, trivial⟩⟩⟩⟩⟩⟩⟩⟩⟩⟩⟩⟩⟩⟩⟩⟩⟩⟩⟩⟩⟩⟩ rfl) ?_
  refine TO.store_all 0 rfl rfl rfl (vl rfl) (VL.le (vl rfl) (agg_cellsP _)) rfl sz180 rfl rfl ?_
  refine TO.nil ?_
  refine Fin.go ?_
  refine Tr.weak [(0, _)] ⟨⟨_, rfl, Pr.le_refl _⟩, trivial⟩ ?_
  refine Tr.ret ?_
  refine Fin.retX1 rfl (RVal.cell 0 rfl rfl agg180 sz180 rfl (Pr.le_refl _)) ?_
  · exact agg_le ⟨Pr.le_refl _, Pr.le_refl _, Pr.le_refl _, nil_slice 1, nil_slice 1, Pr.le_refl _, Pr.le_refl _, Pr.le_refl _, Pr.le_refl _, Pr.le_refl _, Pr.le_refl _, Pr.le_refl _, Pr.le_refl _, Pr.le_refl _, Pr.le_refl _, Pr.le_refl _, Pr.le_refl _, Pr.le_refl _, Pr.le_refl _, Pr.le_refl _, Pr.le_refl _, Pr.le_refl _, Pr.le_refl _, Pr.le_refl _, Pr.le_refl _, Pr.le_refl _, Pr.le_refl _, Pr.le_refl _, Pr.le_refl _, Pr.le_refl _, Pr.le_refl _, Pr.le_refl _, Pr.le_refl _, Pr.le_refl _, Pr.le_refl _, Pr.le_refl _, Pr.le_refl _, Pr.le_refl _, Pr.le_refl _, Pr.le_refl _, Pr.le_refl _, Pr.le_refl _, Pr.le_refl _, Pr.le_refl _, Pr.le_refl _, Pr.le_refl _, Pr.le_refl _, Pr.le_refl _, Pr.le_refl _, Pr.le_refl _, Pr.le_refl _, Pr.le_refl _, Pr.le_refl _, Pr.le_refl _, Pr.le_refl _, Pr.le_refl _, Pr.le_refl _, Pr.le_refl _, Pr.le_refl _, Pr.le_refl _, Pr.le_refl _, Pr.le_refl _, Pr.le_refl _, Pr.le_refl _, Pr.le_refl _, Pr.le_refl _, Pr.le_refl _, Pr.le_refl _, Pr.le_refl _, Pr.le_refl _, Pr.le_refl _, Pr.le_refl _, Pr.le_refl _, Pr.le_refl _, Pr.le_refl _, Pr.le_refl _, Pr.le_refl _, Pr.le_refl _, Pr.le_refl _, Pr.le_refl _, Pr.le_refl _, Pr.le_refl _, Pr.le_refl _, Pr.le_refl _, Pr.le_refl _, Pr.le_refl _, Pr.le_refl _, Pr.le_refl _, Pr.le_refl _, Pr.le_refl _, Pr.le_refl _, Pr.le_refl _, Pr.le_refl _, Pr.le_refl _, Pr.le_refl _, Pr.le_refl _, Pr.le_refl _, Pr.le_refl _, Pr.le_refl _, Pr.le_refl _, Pr.le_refl _, Pr.le_refl _, Pr.le_refl _, Pr.le_refl _, Pr.le_refl _, Pr.le_refl _, Pr.le_refl _, Pr.le_refl _, Pr.le_refl _, Pr.le_refl _, Pr.le_refl _, Pr.le_refl _, Pr.le_refl _, Pr.le_refl _, Pr.le_refl _, trivial⟩
theorem e_rows : Entry Tryz.prog 167 := ⟨_, Tryz.func167, rfl, rfl⟩
set_option maxRecDepth 20000 in
theorem w_of {alg : Int}  : Fun Tryz.prog 158 [int alg] (tup [agg (rowC (catOf alg)), bool (decide (1 ≤ alg ∧ alg ≤ 22))]) := by
  refine Fun.of Tryz.func158 rfl rfl (by exact Nat.le_of_ble_eq_true rfl) fun M0 w0 => ?_
  refine Tr.seq ?_
  refine Tr.regT ?_
  refine TO.alloc rfl rfl (by decide) rfl z170 zo170 (fun b1 => ?_)
  refine TO.op rfl rfl (by decide) (ok_assign rfl (vl rfl)) ?_
  refine TO.nil ?_
  refine Fin.go ?_
  refine Tr.seq ?_
  refine Tr.seq ?_
  refine Tr.reg0 ?_
  refine Ch.op rfl rfl (by decide) (ok_move rfl (vl rfl)) ?_
  refine Ch.op rfl rfl (by decide) (ok_int rfl (vl rfl) (vl rfl) rfl) ?_
  refine Ch.op rfl rfl (by decide) (ok_move rfl (vl rfl)) ?_
  refine Ch.cases 6 rfl (fun h1 => ?_) (fun h1 => ?_)
  ·
    have q1 := Nrm.nrm h1
    refine Ch.no rfl rfl rfl (ne_false h1) rfl (by decide) ?_
    refine Ch.no rfl rfl rfl (ne_false h1) rfl (by decide) ?_
    refine Ch.op rfl rfl (by decide) (ok_pick_t rfl (vl rfl) h1 (vl rfl)) ?_
    refine Ch.nil ?_
    refine Fin.go ?_
    refine Tr.cond rfl (fun _ => ?_) (fun h => nomatch h)
    refine Tr.seq ?_
    refine Tr.regT ?_
    refine TO.op rfl rfl (by decide) (ok_build (rows := []) rfl bl170 zo170 trivial rfl) ?_
    refine TO.store_all 0 rfl rfl rfl (vl rfl) (VL.le (vl rfl) (agg_cellsP _)) rfl sz170 rfl rfl ?_
    refine TO.op rfl rfl (by decide) (ok_assign rfl (vl rfl)) ?_
    refine TO.nil ?_
    refine Fin.go ?_
    refine Tr.ret ?_
    refine Fin.then_ret ?_
    refine Fin.retX2 rfl (RVal.cell 0 rfl rfl agg170 sz170 rfl (Pr.le_refl _)) (RVal.tmp rfl (Pr.le_refl _)) ?_
    · refine tup_le ⟨?_, bool_eq (by symm; rw [decide_eq_false_iff_not]; omega), trivial⟩; unfold catOf; rw [if_neg (by omega)]; exact agg_le ⟨Pr.le_refl _, Pr.le_refl _, Pr.le_refl _, nil_slice 1, nil_slice 1, trivial⟩
  ·
    have q1 := Nrm.nrm h1
    refine Ch.yes rfl rfl rfl h1 rfl (by decide) (ok_move rfl (vl rfl)) ?_
    refine Ch.yes rfl rfl rfl h1 rfl (by decide) (ok_int rfl (vl rfl) (vl rfl) rfl) ?_
    refine Ch.op rfl rfl (by decide) (ok_pick_f rfl (vl rfl) h1 (vl rfl)) ?_
    refine Ch.nil ?_
    refine Fin.go ?_
    refine Tr.cond rfl (fun h2 => ?_) (fun h2 => ?_)
    ·
      have q2 := Nrm.nrm h2
      refine Tr.seq ?_
      refine Tr.regT ?_
      refine TO.op rfl rfl (by decide) (ok_build (rows := []) rfl bl170 zo170 trivial rfl) ?_
      refine TO.store_all 0 rfl rfl rfl (vl rfl) (VL.le (vl rfl) (agg_cellsP _)) rfl sz170 rfl rfl ?_
      refine TO.op rfl rfl (by decide) (ok_assign rfl (vl rfl)) ?_
      refine TO.nil ?_
      refine Fin.go ?_
      refine Tr.ret ?_
      refine Fin.then_ret ?_
      refine Fin.retX2 rfl (RVal.cell 0 rfl rfl agg170 sz170 rfl (Pr.le_refl _)) (RVal.tmp rfl (Pr.le_refl _)) ?_
      · refine tup_le ⟨?_, bool_eq (by symm; rw [decide_eq_false_iff_not]; omega), trivial⟩; unfold catOf; rw [if_neg (by omega)]; exact agg_le ⟨Pr.le_refl _, Pr.le_refl _, Pr.le_refl _, nil_slice 1, nil_slice 1, trivial⟩
    ·
      have q2 := Nrm.nrm h2
      have hin : 1 ≤ alg ∧ alg ≤ 22 := by omega
      refine Tr.skip ?_
      refine Fin.go ?_
      refine Tr.seq ?_
      refine Tr.regT ?_
      refine TO.op rfl rfl (by decide) (ok_call rfl (w_rows) trivial) ?_
      refine TO.op rfl rfl (by decide) (ok_move rfl (vl rfl)) ?_
      refine TO.op rfl rfl (by decide) (ok_index rfl Tryz.underlying180 agg170 sz170 (vl rfl) (vl rfl) (by omega) (by omega) (flat_row (f := rowC) (fun _ => rfl) (catTable_at hin))) ?_
      refine TO.store_all 0 rfl rfl rfl (vl rfl) (VL.le (vl rfl) (agg_cellsP _)) rfl sz170 rfl rfl ?_
      refine TO.op rfl rfl (by decide) (ok_assign rfl (vl rfl)) ?_
      refine TO.nil ?_
      refine Fin.go ?_
      refine Tr.ret ?_
      refine Fin.retX2 rfl (RVal.cell 0 rfl rfl agg170 sz170 rfl (Pr.le_refl _)) (RVal.tmp rfl (Pr.le_refl _)) ?_
      · exact tup_le ⟨Pr.le_refl _, bool_eq (by symm; rw [decide_eq_true_eq]; exact hin), trivial⟩
theorem e_of : Entry Tryz.prog 158 := ⟨_, Tryz.func158, rfl, rfl⟩
set_option maxRecDepth 20000 in
theorem w_Kind {alg : Int}  : Fun Tryz.prog 135 [int alg] (int (catOf alg).kind) := by
  refine Fun.of Tryz.func135 rfl rfl (by exact Nat.le_of_ble_eq_true rfl) fun M0 w0 => ?_
  refine Tr.seq ?_
  refine Tr.reg0 ?_
  refine Ch.op rfl rfl (by decide) (ok_assign rfl (vl rfl)) ?_
  refine Ch.nil ?_
  refine Fin.go ?_
  refine Tr.seq ?_
  refine Tr.regT ?_
  refine TO.op rfl rfl (by decide) (ok_move rfl (vl rfl)) ?_
  refine TO.op rfl rfl (by decide) (ok_call rfl (w_of) ⟨⟨_, rfl, Pr.le_refl _⟩, trivial⟩) ?_
  refine TO.op rfl rfl (by decide) (ok_move rfl (vl rfl)) ?_
  refine TO.op rfl rfl (by decide) (ok_extract rfl (vl rfl) rfl) ?_
  refine TO.op rfl rfl (by decide) (ok_extract rfl (vl rfl) rfl) ?_
  refine TO.alloc rfl rfl (by decide) rfl z170 zo170 (fun b1 => ?_)
  refine TO.store_all 0 rfl rfl rfl (vl rfl) (VL.le (vl rfl) (agg_cellsP _)) rfl sz170 rfl rfl ?_
  refine TO.freeze 0 3 rfl rfl ?_
  refine TO.op rfl rfl (by decide) (ok_assign rfl (vl rfl)) ?_
  refine TO.nil ?_
  refine Fin.go ?_
  refine Tr.seq ?_
  refine Tr.reg0 ?_
  refine Ch.op rfl rfl (by decide) (ok_fieldAddr rfl fo170_1 (vl rfl) rfl) ?_
  refine Ch.op rfl rfl (by decide) (ok_load1 rfl one3 (vl rfl)) ?_
  refine Ch.op rfl rfl (by decide) (ok_assign rfl (vl rfl)) ?_
  refine Ch.nil ?_
  refine Fin.go ?_
  refine Tr.ret ?_
  refine Fin.ret1 rfl (OutW.bse _ _) rfl ?_
  · first | exact Pr.le_refl _ | (refine int_eq ?_; simp_all; done) | (refine bool_eq ?_; simp_all; done) | (refine bool_eq ?_; simp_all; omega) | (refine int_eq ?_; omega)
theorem e_Kind : Entry Tryz.prog 135 := ⟨_, Tryz.func135, rfl, rfl⟩
set_option maxRecDepth 20000 in
theorem w_modulus {b : Int}  : Fun Tryz.prog 164 [int b] (int (modI b)) := by
  refine Fun.of Tryz.func164 rfl rfl (by exact Nat.le_of_ble_eq_true rfl) fun M0 w0 => ?_
  have hml : mods.length = 5 := rfl
  refine Tr.seq ?_
  refine Tr.reg0 ?_
  refine Ch.op rfl rfl (by decide) (ok_assign rfl (vl rfl)) ?_
  refine Ch.nil ?_
  refine Fin.go ?_
  refine Tr.seq ?_
  refine Tr.seq ?_
  refine Tr.reg0 ?_
  refine Ch.op rfl rfl (by decide) (ok_build (rows := [(0, [_]), (1, [_])]) rfl bl183 zo183 ⟨⟨rfl, (VL.le (vl rfl) (one_cellsP _))⟩, ⟨⟨rfl, (VL.le (vl rfl) (one_cellsP _))⟩, trivial⟩⟩ rfl) ?_
  refine Ch.op rfl rfl (by decide) (ok_build (rows := [(0, [_]), (1, [_])]) rfl bl183 zo183 ⟨⟨rfl, (VL.le (vl rfl) (one_cellsP _))⟩, ⟨⟨rfl, (VL.le (vl rfl) (one_cellsP _))⟩, trivial⟩⟩ rfl) ?_
  refine Ch.op rfl rfl (by decide) (ok_build (rows := [(0, [_]), (1, [_])]) rfl bl183 zo183 ⟨⟨rfl, (VL.le (vl rfl) (one_cellsP _))⟩, ⟨⟨rfl, (VL.le (vl rfl) (one_cellsP _))⟩, trivial⟩⟩ rfl) ?_
  refine Ch.op rfl rfl (by decide) (ok_build (rows := [(0, [_]), (1, [_])]) rfl bl183 zo183 ⟨⟨rfl, (VL.le (vl rfl) (one_cellsP _))⟩, ⟨⟨rfl, (VL.le (vl rfl) (one_cellsP _))⟩, trivial⟩⟩ rfl) ?_
  refine Ch.op rfl rfl (by decide) (ok_build (rows := [(0, [_]), (1, [_])]) rfl bl183 zo183 ⟨⟨rfl, (VL.le (vl rfl) (one_cellsP _))⟩, ⟨⟨rfl, (VL.le (vl rfl) (one_cellsP _))⟩, trivial⟩⟩ rfl) ?_
  refine Ch.op rfl rfl (by decide) (ok_build (rows := [(0, _), (1, _), (2, _), (3, _), (4, _)]) rfl bl184 zo184 ⟨⟨rfl, (VL.le (vl rfl) (agg_cellsP _))⟩, ⟨⟨rfl, (VL.le (vl rfl) (agg_cellsP _))⟩, ⟨⟨rfl, (VL.le (vl rfl) (agg_cellsP _))⟩, ⟨⟨rfl, (VL.le (vl rfl) (agg_cellsP _))⟩, ⟨⟨rfl, (VL.le (vl rfl) (agg_cellsP _))⟩, trivial⟩⟩⟩⟩⟩ rfl) ?_
  refine Ch.op rfl rfl (by decide) (ok_move rfl (vl rfl)) ?_
  refine Ch.nil ?_
  refine Fin.go ?_
  refine Tr.block ?_
  refine Tr.re 10 rfl (Pr.le_of_eq (show _ = agg (mods.flatMap fun p => [int p.1, int p.2]) from rfl)) ?_
  refine Tr.loopw [(0, _), (10, _)] ⟨⟨_, rfl, Pr.le_refl _⟩, ⟨_, rfl, Pr.le_refl _⟩, trivial⟩ (fun k : Nat => [(11, int ((k : Nat) : Int))]) (fun k : Nat => k ≤ (mods).length ∧ (modI b = modF (mods.drop k) b)) (fun k : Nat => (mods).length - k) 0 (⟨Nat.zero_le _, rfl⟩) ⟨⟨_, rfl, Pr.le_refl _⟩, trivial⟩ ?_
  rintro k ⟨hle_k, hinv_k⟩
  refine Tr.seq ?_
  refine Tr.reg0 ?_
  refine Ch.op rfl rfl (by decide) (ok_int rfl (vl rfl) (vl rfl) rfl) ?_
  refine Ch.nil ?_
  refine Fin.go ?_
  refine Tr.seq ?_
  refine Tr.cond rfl (fun h1 => ?_) (fun h1 => ?_)
  ·
    have q1 := Nrm.nrm h1
    have hk_k : k < (mods).length := lt_of_dec h1
    obtain ⟨p, hx_k⟩ := at_ hk_k
    have hL : k < 5 := hk_k
    have hdr := drop_cons hx_k
    refine Tr.skip ?_
    refine Fin.go ?_
    refine Tr.seq ?_
    refine Tr.block ?_
    refine Tr.seq ?_
    refine Tr.regT ?_
    refine TO.op rfl rfl (by decide) (ok_index rfl Tryz.underlying184 agg183 sz183 (vl rfl) (vl rfl) (by omega) (by omega) (flat_row (f := fun p : Int × Int => [int p.1, int p.2]) (fun _ => rfl) hx_k)) ?_
    refine TO.alloc rfl rfl (by decide) rfl z183 zo183 (fun b1 => ?_)
    refine TO.store_all 0 rfl rfl rfl (vl rfl) (VL.le (vl rfl) (agg_cellsP _)) rfl sz183 rfl rfl ?_
    refine TO.freeze 0 4 rfl rfl ?_
    refine TO.nil ?_
    refine Fin.go ?_
    refine Tr.seq ?_
    refine Tr.reg0 ?_
    refine Ch.op rfl rfl (by decide) (ok_move rfl (vl rfl)) ?_
    refine Ch.op rfl rfl (by decide) (ok_indexArr rfl Tryz.underlying183 sz3 (vl rfl) (vl rfl) (by omega) (by omega) rfl) ?_
    refine Ch.op rfl rfl (by decide) (ok_load_hd rfl one3 (vl rfl) rfl) ?_
    refine Ch.op rfl rfl (by decide) (ok_int rfl (vl rfl) (vl rfl) rfl) ?_
    refine Ch.nil ?_
    refine Fin.go ?_
    refine Tr.cond rfl (fun h2 => ?_) (fun h2 => ?_)
    ·
      have q2 := Nrm.nrm h2
      refine Tr.seq ?_
      refine Tr.reg0 ?_
      refine Ch.op rfl rfl (by decide) (ok_indexArr rfl Tryz.underlying183 sz3 (vl rfl) (vl rfl) (by omega) (by omega) rfl) ?_
      refine Ch.op rfl rfl (by decide) (ok_load_hd rfl one3 (vl rfl) rfl) ?_
      refine Ch.op rfl rfl (by decide) (ok_assign rfl (vl rfl)) ?_
      refine Ch.nil ?_
      refine Fin.go ?_
      refine Tr.weak [(2, _)] ⟨⟨_, rfl, Pr.le_refl _⟩, trivial⟩ ?_
      refine Tr.ret ?_
      refine Fin.block_ret ?_
      refine Fin.then_ret ?_
      refine Fin.then_ret ?_
      refine Fin.block_ret ?_
      refine Fin.then_ret ?_
      refine Fin.ret1 rfl (OutW.bse _ _) rfl ?_
      · refine int_eq ?_; rw [hinv_k, hdr]; exact (if_pos (by omega)).symm
    ·
      have q2 := Nrm.nrm h2
      refine Tr.skip ?_
      refine Fin.block ?_
      refine Fin.go ?_
      refine Tr.reg0 ?_
      first
        | (refine Ch.op rfl rfl (by decide) (ok_add rfl (vl rfl) (vl rfl) ?hin) ?_; case hin => unfold InI; omega)
        | refine Ch.op rfl rfl (by decide) (ok_int rfl (vl rfl) (vl rfl) rfl) ?_
      refine Ch.op rfl rfl (by decide) (ok_move rfl (vl rfl)) ?_
      refine Ch.nil ?_
      exact Fin.fam_same (k + 1) ⟨⟨hk_k, (by rw [hinv_k, hdr]; exact if_neg (by omega))⟩, by omega⟩ ⟨⟨_, rfl, int_succ k⟩, ⟨_, rfl, Pr.le_refl _⟩, ⟨_, rfl, Pr.le_refl _⟩, trivial⟩
  ·
    have q1 := Nrm.nrm h1
    have he_k : k = (mods).length := by have := ge_of_dec h1; omega
    subst he_k
    refine Tr.exit ?_
    refine Fin.then_exit ?_
    refine Fin.then_exit ?_
    refine Fin.block_here ?_
    refine Fin.go ?_
    refine Tr.seq ?_
    refine Tr.reg0 ?_
    refine Ch.op rfl rfl (by decide) (ok_assign rfl (vl rfl)) ?_
    refine Ch.nil ?_
    refine Fin.go ?_
    refine Tr.ret ?_
    refine Fin.ret1 rfl (OutW.bse _ _) rfl ?_
    · refine int_eq ?_; rw [hinv_k, List.drop_length]; rfl
theorem e_modulus : Entry Tryz.prog 164 := ⟨_, Tryz.func164, rfl, rfl⟩
end Go.Proofs.YthmnoekgicggnaaGreat
