/-
  IdentityParts: whatever the input, the law of this name returns true and its arguments read as before. No conditions.
-/
import Derived.Test.YtgdlhajfajddiaaRows
import Derived.Test.YtgdlhajfajddiaaIdPartsP4
set_option linter.all false
namespace Go.Proofs.Ytgdlhajfajddiaa
open Go Go.RowKit Cp

section
variable {α : Type} {c : α → α → Int} {l : List α} {x : α}
/-- How many are before x. -/
def posC (c : α → α → Int) (l : List α) (x : α) : Nat := (l.takeWhile fun y => decide (c y x < 0)).length
theorem posC_le (c : α → α → Int) (l : List α) (x : α) : posC c l x ≤ l.length := by
  unfold posC
  have h := List.takeWhile_append_dropWhile (p := fun y => decide (c y x < 0)) (l := l)
  have := congrArg List.length h
  rw [List.length_append] at this; omega
theorem posC_eq : ∀ {l : List α} {k : Nat}, k ≤ l.length → (∀ (j : Nat) y, j < k → l[j]? = some y → c y x < 0) → (∀ y, l[k]? = some y → ¬ c y x < 0) → posC c l x = k
  | [], k, hk, _, _ => by have : k = 0 := by simpa using hk
                          subst this; rfl
  | y :: r, 0, _, _, h2 => by unfold posC; rw [List.takeWhile_cons_of_neg (by simpa using h2 y rfl)]; rfl
  | y :: r, k + 1, hk, h1, h2 => by
    have ih := posC_eq (l := r) (k := k) (by simpa using hk) (fun j z hj hz => h1 (j + 1) z (by omega) (by simpa using hz)) (fun z hz => h2 z (by simpa using hz))
    unfold posC at ih ⊢
    rw [List.takeWhile_cons_of_pos (by simpa using h1 0 y (by omega) rfl), List.length_cons, ih]
theorem posC_lt : ∀ {l : List α} {j : Nat} {y : α}, j < posC c l x → l[j]? = some y → c y x < 0
  | [], j, y, h, _ => by unfold posC at h; simp at h
  | z :: r, j, y, h, hy => by
    by_cases hz : c z x < 0
    · cases j with
      | zero => simp at hy; subst hy; exact hz
      | succ j =>
        refine posC_lt (l := r) (j := j) ?_ (by simpa using hy)
        unfold posC at h ⊢
        rw [List.takeWhile_cons_of_pos (by simpa using hz), List.length_cons] at h; omega
    · unfold posC at h; rw [List.takeWhile_cons_of_neg (by simpa using hz)] at h; simp at h
theorem posC_ge : ∀ {l : List α} {y : α}, l[posC c l x]? = some y → ¬ c y x < 0
  | [], y, h => by simp at h
  | z :: r, y, h => by
    by_cases hz : c z x < 0
    · unfold posC at h
      rw [List.takeWhile_cons_of_pos (by simpa using hz), List.length_cons, List.getElem?_cons_succ] at h
      exact posC_ge (l := r) h
    · unfold posC at h; rw [List.takeWhile_cons_of_neg (by simpa using hz)] at h; simp at h; subst h; exact hz
abbrev hasC (c : α → α → Int) (l : List α) (x : α) : Bool := (l[posC c l x]?).any (fun y => decide (c y x = 0))
theorem insC_has (h : hasC c l x = true) : insC c l x = l := by
  rw [insC_at (posC_le c l x) (fun j y => posC_lt) (fun y => posC_ge), if_pos h]
theorem insC_not (h : hasC c l x = false) : insC c l x = l.take (posC c l x) ++ [x] ++ l.drop (posC c l x) := by
  rw [insC_at (posC_le c l x) (fun j y => posC_lt) (fun y => posC_ge), if_neg (by unfold hasC at h; simp [h])]; simp
abbrev AscC (c : α → α → Int) (l : List α) : Prop := l.Pairwise fun a b => c a b < 0
theorem bs_lt (hc : Cmp c) (hs : AscC c l) {h : Nat} {y : α} (hy : l[h]? = some y) (hyx : c y x < 0) : ∀ (k : Nat) z, k < h + 1 → l[k]? = some z → c z x < 0 := by
  intro k z hk hz
  rcases Nat.lt_or_eq_of_le (Nat.le_of_lt_succ hk) with h1 | h1
  · have hkl := lt_of_atX hz
    have hhl := lt_of_atX hy
    have := List.pairwise_iff_getElem.1 hs k h hkl hhl h1
    rw [List.getElem?_eq_getElem hkl] at hz
    rw [List.getElem?_eq_getElem hhl] at hy
    simp only [Option.some.injEq] at hz hy
    rw [hz, hy] at this
    exact hc.tr z y x this hyx
  · subst h1; rw [hy] at hz; cases hz; exact hyx
theorem bs_ge (hc : Cmp c) (hs : AscC c l) {h : Nat} {y : α} (hy : l[h]? = some y) (hyx : ¬ c y x < 0) : ∀ (k : Nat) z, h ≤ k → l[k]? = some z → ¬ c z x < 0 := by
  intro k z hk hz hzx
  rcases Nat.lt_or_eq_of_le hk with h1 | h1
  · have hkl := lt_of_atX hz
    have hhl := lt_of_atX hy
    have := List.pairwise_iff_getElem.1 hs h k hhl hkl h1
    rw [List.getElem?_eq_getElem hkl] at hz
    rw [List.getElem?_eq_getElem hhl] at hy
    simp only [Option.some.injEq] at hz hy
    rw [hz, hy] at this
    exact hyx (hc.tr y z x this hzx)
  · subst h1; rw [hy] at hz; cases hz; exact hyx hzx
theorem hasC_end {i : Nat} (hp : posC c l x = i) (hi : l.length ≤ i) : hasC c l x = false := by
  unfold hasC; rw [hp, List.getElem?_eq_none hi]; rfl
theorem hasC_at {i : Nat} {y : α} (hp : posC c l x = i) (hy : l[i]? = some y) : hasC c l x = decide (c y x = 0) := by
  unfold hasC; rw [hp, hy]; rfl
end

set_option maxRecDepth 20000 in
theorem w_isNaNs {a : List UInt8}  : Fun Try.prog 111 [str a] (bool false) := by
 refine Fun.of Try.func111 rfl rfl (by exact Nat.le_of_ble_eq_true rfl) fun M0 w0 => ?_
 refine Tr.seq (Tr.reg0 ?_)
 refine Ch.as rfl rfl rfl rfl rfl ?_
 refine Ch.nil (Fin.go (Tr.seq (Tr.reg0 ?_)))
 refine Ch.mv rfl rfl rfl rfl rfl ?_
 refine Ch.mv rfl rfl rfl rfl rfl ?_
 refine Ch.oo rfl rfl rfl (ok_nes rfl (vl rfl) (vl rfl)) ?_
 refine Ch.as rfl rfl rfl rfl rfl ?_
 refine Ch.nil (Fin.go (Tr.ret ?_))
 refine Fin.ret1 rfl (OutW.bse _ _) rfl ?_
 · first | exact Pr.le_refl _ | (refine int_eq ?_; simp_all; done) | (refine bool_eq ?_; simp_all; done) | (refine bool_eq ?_; simp_all; omega) | (refine int_eq ?_; omega)
set_option maxRecDepth 20000 in
theorem w_SisNaNs {a : List UInt8}  : Fun Try.prog 84 [str a] (bool false) := by
 refine Fun.of Try.func84 rfl rfl (by exact Nat.le_of_ble_eq_true rfl) fun M0 w0 => ?_
 refine Tr.seq (Tr.reg0 ?_)
 refine Ch.as rfl rfl rfl rfl rfl ?_
 refine Ch.nil (Fin.go (Tr.seq (Tr.reg0 ?_)))
 refine Ch.mv rfl rfl rfl rfl rfl ?_
 refine Ch.mv rfl rfl rfl rfl rfl ?_
 refine Ch.oo rfl rfl rfl (ok_nes rfl (vl rfl) (vl rfl)) ?_
 refine Ch.as rfl rfl rfl rfl rfl ?_
 refine Ch.nil (Fin.go (Tr.ret ?_))
 refine Fin.ret1 rfl (OutW.bse _ _) rfl ?_
 · first | exact Pr.le_refl _ | (refine int_eq ?_; simp_all; done) | (refine bool_eq ?_; simp_all; done) | (refine bool_eq ?_; simp_all; omega) | (refine int_eq ?_; omega)
set_option maxRecDepth 20000 in
theorem w_SisNaNi {a : Int}  : Fun Try.prog 88 [int a] (bool false) := by
 refine Fun.of Try.func88 rfl rfl (by exact Nat.le_of_ble_eq_true rfl) fun M0 w0 => ?_
 refine Tr.seq (Tr.reg0 ?_)
 refine Ch.as rfl rfl rfl rfl rfl ?_
 refine Ch.nil (Fin.go (Tr.seq (Tr.reg0 ?_)))
 refine Ch.mv rfl rfl rfl rfl rfl ?_
 refine Ch.mv rfl rfl rfl rfl rfl ?_
 refine Ch.oo rfl rfl rfl (ok_int rfl (vl rfl) (vl rfl) rfl) ?_
 refine Ch.as rfl rfl rfl rfl rfl ?_
 refine Ch.nil (Fin.go (Tr.ret ?_))
 refine Fin.ret1 rfl (OutW.bse _ _) rfl ?_
 · first | exact Pr.le_refl _ | (refine int_eq ?_; simp_all; done) | (refine bool_eq ?_; simp_all; done) | (refine bool_eq ?_; simp_all; omega) | (refine int_eq ?_; omega)
set_option maxRecDepth 20000 in
theorem w_lessS {a b : List UInt8}  : Fun Try.prog 83 [str a, str b] (bool (decide (Lib.compareBytes a b = -1))) := by
 refine Fun.of Try.func83 rfl rfl (by exact Nat.le_of_ble_eq_true rfl) fun M0 w0 => ?_
 refine Tr.seq (Tr.reg0 ?_)
 refine Ch.as rfl rfl rfl rfl rfl ?_
 refine Ch.nil (Fin.go (Tr.seq (Tr.reg0 ?_)))
 refine Ch.mv rfl rfl rfl rfl rfl ?_
 refine Ch.oo rfl rfl rfl (ok_call rfl (w_isNaNs) ⟨ke rfl, trivial⟩) ?_
 refine Ch.mv rfl rfl rfl rfl rfl ?_
 refine Ch.cs 7 rfl (fun h1 q1 => ?_) (fun h1 q1 => ?_)
 ·
  exact absurd h1 (by decide)
 ·
  iterate 3 refine Ch.nt h1 rfl rfl rfl rfl rfl ?_
  refine Ch.oo rfl rfl rfl (ok_pick_f rfl (vl rfl) h1 (vl rfl)) ?_
  refine Ch.mv rfl rfl rfl rfl rfl ?_
  refine Ch.ym rfl rfl rfl rfl rfl rfl rfl rfl ?_
  refine Ch.ym rfl rfl rfl rfl rfl rfl rfl rfl ?_
  refine Ch.y rfl rfl rfl rfl rfl rfl (ok_lts rfl (vl rfl) (vl rfl)) ?_
  refine Ch.oo rfl rfl rfl (ok_pick_f rfl (vl rfl) rfl (vl rfl)) ?_
  refine Ch.as rfl rfl rfl rfl rfl ?_
  refine Ch.nil (Fin.go ?_)
  refine Tr.w1 4 rfl ?_
  refine Tr.ret ?_
  refine Fin.ret1 rfl (OutW.bse _ _) rfl ?_
  · first | exact Pr.le_refl _ | (refine int_eq ?_; simp_all; done) | (refine bool_eq ?_; simp_all; done) | (refine bool_eq ?_; simp_all; omega) | (refine int_eq ?_; omega)
set_option maxRecDepth 20000 in
theorem w_BSBs {l : List (List UInt8)} {x : List UInt8} {b0 cap : Nat} {sp : List Value} (hs : AscC Lib.compareBytes l) (hl : l.length ≤ 1000000) (hcap : l.length ≤ cap) : FunM Try.prog 48 [andIs (.slice (some ⟨b0, 0, none⟩) l.length cap) (lens l.length), str x] (tup [int ((posC Lib.compareBytes l x : Nat) : Int), bool (hasC Lib.compareBytes l x)]) (cellsRes true b0 9 ((l.map (fun t : List UInt8 => [str t])).flatten ++ sp.map is)) (fun _ => cellsRes true b0 9 ((l.map (fun t : List UInt8 => [str t])).flatten ++ sp.map is)) := by
 refine FunM.of Try.func48 rfl rfl (by exact Nat.le_of_ble_eq_true rfl) fun M0 w0 S rs M1 w1 => ?_
 refine Tr.seq (Tr.reg0 ?_)
 refine Ch.as rfl rfl rfl rfl rfl ?_
 refine Ch.as rfl rfl rfl rfl rfl ?_
 refine Ch.nil (Fin.go (Tr.seq (Tr.reg0 ?_)))
 refine Ch.mv rfl rfl rfl rfl rfl ?_
 refine Ch.oo rfl rfl rfl (okb_len rfl Try.underlying25 ⟨_, rfl, andIs_is _ _⟩) ?_
 refine Ch.as rfl rfl rfl rfl rfl ?_
 refine Ch.nil (Fin.go (Tr.seq (Tr.reg0 ?_)))
 refine Ch.mv rfl rfl rfl rfl rfl ?_
 refine Ch.as rfl rfl rfl rfl rfl ?_
 refine Ch.as rfl rfl rfl rfl rfl ?_
 refine Ch.nil (Fin.go (Tr.seq (Tr.block ?_)))
 refine Tr.loopD2V0 [(0, _), (1, _), (6, _)] ⟨ke rfl, ke rfl, ke rfl, trivial⟩ (fun (i : Nat) (j : Nat) => [(7, int ((i : Nat) : Int)), (8, int ((j : Nat) : Int))]) (fun (i : Nat) (j : Nat) => Hp M0 w0 S (cellsRes true b0 9 ((l.map (fun t : List UInt8 => [str t])).flatten ++ sp.map is) :: extRes M1 w1 :: rs)) (fun (i : Nat) (j : Nat) => i ≤ j ∧ j ≤ l.length ∧ (∀ (k : Nat) y, k < i → l[k]? = some y → Lib.compareBytes y x < 0) ∧ (∀ (k : Nat) y, j ≤ k → l[k]? = some y → ¬ Lib.compareBytes y x < 0)) (fun (i : Nat) (j : Nat) => j - i) (0) (l.length)  (⟨Nat.zero_le _, Nat.le_refl _, fun k y h => absurd h (Nat.not_lt_zero _), fun k y h1 h2 => by rw [List.getElem?_eq_none h1] at h2; cases h2⟩) ⟨ke rfl, ke rfl, trivial⟩ (fun _ _ h => h) ?_
 rintro i j  ⟨hi1, hi2, hi3, hi4⟩
 refine Tr.seq (Tr.seq (Tr.reg0 ?_))
 refine Ch.mv rfl rfl rfl rfl rfl ?_
 refine Ch.mv rfl rfl rfl rfl rfl ?_
 refine Ch.oo rfl rfl rfl (ok_int rfl (vl rfl) (vl rfl) rfl) ?_
 refine Ch.nil (Fin.go ?_)
 refine Tr.cn rfl (fun h1 q1 => ?_) (fun h1 q1 => ?_)
 ·
  have hij : i < j := by have := of_decide_eq_true h1; omega
  obtain ⟨y, hyn⟩ := at_ (l := l) (k := (i + j) / 2) (by omega)
  have hy : l[((((i : Nat) : Int) + ((j : Nat) : Int)) / 2).toNat]? = some y := by rw [show ((((i : Nat) : Int) + ((j : Nat) : Int)) / 2).toNat = (i + j) / 2 by omega]; exact hyn
  refine Tr.skip (Fin.go (Tr.block (Tr.seq (Tr.reg0 ?_))))
  refine Ch.mv rfl rfl rfl rfl rfl ?_
  refine Ch.mv rfl rfl rfl rfl rfl ?_
  first
   | (refine Ch.oo rfl rfl rfl (ok_add rfl (vl rfl) (vl rfl) ?hin) ?_; case hin => unfold InI; omega)
   | refine Ch.oo rfl rfl rfl (ok_int rfl (vl rfl) (vl rfl) rfl) ?_
  refine Ch.oo rfl rfl rfl (ok_convU rfl Try.underlying3 Try.underlying90 (vl rfl) (by omega) (by omega)) ?_
  refine Ch.oo rfl rfl rfl (ok_half rfl (vl rfl) (vl rfl) (by omega)) ?_
  first
   | refine Ch.oo rfl rfl rfl (ok_convI rfl Try.underlying90 Try.underlying3 (vl rfl) (by unfold InI; omega)) ?_
   | refine Ch.oo rfl rfl rfl (ok_conv rfl Try.underlying90 Try.underlying3 (vl rfl)) ?_
  refine Ch.as rfl rfl rfl rfl rfl ?_
  refine Ch.nil (Fin.go ?_)
  refine Tr.w6 0 1 6 7 8 9 rfl rfl rfl rfl rfl rfl ?_
  refine Tr.seq (Tr.reg0 ?_)
  refine Ch.mv rfl rfl rfl rfl rfl ?_
  refine Ch.mv rfl rfl rfl rfl rfl ?_
  refine Ch.oo rfl rfl rfl (okp_indexSl rfl Try.underlying25 sz9 ⟨_, rfl, andIs_is _ _⟩ (vl rfl) (by omega) (by omega)) ?_
  refine Ch.oo rfl rfl rfl (ok_rd 0 rfl (rd_load1 rfl one9 (vl rfl) (cell1_at (f := fun t : List UInt8 => [str t]) (fun _ => rfl) (i := (((i : Nat) : Int) + ((j : Nat) : Int)) / 2) hy rfl))) ?_
  refine Ch.mv rfl rfl rfl rfl rfl ?_
  refine Ch.oo rfl rfl rfl (ok_call rfl (w_lessS) ⟨ke rfl, ke rfl, trivial⟩) ?_
  refine Ch.nil (Fin.go ?_)
  refine Tr.cn rfl (fun h2 q2 => ?_) (fun h2 q2 => ?_)
  ·
   have hlt := q2
   refine Tr.reg0 ?_
   refine Ch.mv rfl rfl rfl rfl rfl ?_
   first
    | (refine Ch.oo rfl rfl rfl (ok_add rfl (vl rfl) (vl rfl) ?hin) ?_; case hin => unfold InI; omega)
    | refine Ch.oo rfl rfl rfl (ok_int rfl (vl rfl) (vl rfl) rfl) ?_
   refine Ch.as rfl rfl rfl rfl rfl ?_
   refine Ch.nil (Fin.block ?_)
   exact Fin.famD2V0 ((i + j) / 2 + 1) (j)  (⟨⟨by omega, by omega, bs_lt cmp_bytes hs hyn (by have := cmp_in y x; omega), hi4⟩, by omega⟩) ⟨⟨_, rfl, int_eq (by omega)⟩, ⟨_, rfl, int_eq (by omega)⟩, ke rfl, ke rfl, ke rfl, trivial⟩ (fun _ _ h => h)
  ·
   have hlt := q2
   refine Tr.reg0 ?_
   refine Ch.mv rfl rfl rfl rfl rfl ?_
   refine Ch.as rfl rfl rfl rfl rfl ?_
   refine Ch.nil (Fin.block ?_)
   exact Fin.famD2V0 (i) ((i + j) / 2)  (⟨⟨by omega, by omega, hi3, bs_ge cmp_bytes hs hyn (by have := cmp_in y x; omega)⟩, by omega⟩) ⟨⟨_, rfl, int_eq (by omega)⟩, ⟨_, rfl, int_eq (by omega)⟩, ke rfl, ke rfl, ke rfl, trivial⟩ (fun _ _ h => h)
 ·
  obtain rfl : i = j := (by have := of_decide_eq_false h1; omega)
  have hp : posC Lib.compareBytes l x = i := posC_eq (by omega) hi3 (fun y hy => hi4 i y (by omega) hy)
  refine Tr.exit ?_
  refine Fin.then_exit ?_
  refine Fin.then_exit ?_
  refine Fin.block_here ?_
  refine Fin.go (Tr.seq (Tr.reg0 ?_))
  iterate 3 refine Ch.mv rfl rfl rfl rfl rfl ?_
  refine Ch.oo rfl rfl rfl (ok_int rfl (vl rfl) (vl rfl) rfl) ?_
  refine Ch.mv rfl rfl rfl rfl rfl ?_
  refine Ch.cs 35 rfl (fun h3 q3 => ?_) (fun h3 q3 => ?_)
  ·
   obtain ⟨y, hyi⟩ := at_ (l := l) (k := i) (by omega)
   refine Ch.ym h3 rfl rfl rfl rfl rfl rfl rfl ?_
   refine Ch.ym h3 rfl rfl rfl rfl rfl rfl rfl ?_
   refine Ch.y h3 rfl rfl rfl rfl rfl (okp_indexSl rfl Try.underlying25 sz9 ⟨_, rfl, andIs_is _ _⟩ (vl rfl) (by omega) (by omega)) ?_
   refine Ch.y h3 rfl rfl rfl rfl rfl (ok_rd 0 rfl (rd_load1 rfl one9 (vl rfl) (cell1_at (f := fun t : List UInt8 => [str t]) (fun _ => rfl) (i := ((i : Nat) : Int)) (by rw [Int.toNat_natCast]; exact hyi) rfl))) ?_
   refine Ch.ym h3 rfl rfl rfl rfl rfl rfl rfl ?_
   refine Ch.y h3 rfl rfl rfl rfl rfl (ok_eqs rfl (vl rfl) (vl rfl)) ?_
   refine Ch.ym h3 rfl rfl rfl rfl rfl rfl rfl ?_
   refine Ch.cs 42 rfl (fun h4 q4 => ?_) (fun h4 q4 => ?_)
   ·
    iterate 6 refine Ch.nf h4 rfl rfl rfl rfl rfl ?_
    refine Ch.u rfl rfl rfl rfl rfl ?_
    refine Ch.u rfl rfl rfl rfl rfl ?_
    refine Ch.nf h4 rfl rfl rfl rfl rfl ?_
    refine Ch.y h3 rfl rfl rfl rfl rfl (ok_pick_t rfl (vl rfl) h4 (vl rfl)) ?_
    refine Ch.oo rfl rfl rfl (ok_pick_t rfl (vl rfl) h3 (vl rfl)) ?_
    refine Ch.as rfl rfl rfl rfl rfl ?_
    refine Ch.as rfl rfl rfl rfl rfl ?_
    refine Ch.nil (Fin.go ?_)
    refine Tr.w2 4 5 rfl rfl ?_
    refine Tr.ret ?_
    refine Fin.retM2 rfl rfl ?_ rfl ?_
    · exact int_eq (by rw [hp])
    · first | (refine bool_eq ?_; rw [hasC_end hp (by omega)]) | (refine bool_eq ?_; rw [hasC_at hp hyi]; symm; rw [decide_eq_true_eq]; exact (cmp_zero _ _).2 (by simp_all)) | (refine bool_eq ?_; rw [hasC_at hp hyi]; symm; rw [decide_eq_false_iff_not]; intro h0; have := (cmp_zero _ _).1 h0; simp_all)
   ·
    refine Ch.ym h4 rfl rfl rfl rfl rfl rfl rfl ?_
    refine Ch.ym h4 rfl rfl rfl rfl rfl rfl rfl ?_
    refine Ch.y h4 rfl rfl rfl rfl rfl (okp_indexSl rfl Try.underlying25 sz9 ⟨_, rfl, andIs_is _ _⟩ (vl rfl) (by omega) (by omega)) ?_
    refine Ch.y h4 rfl rfl rfl rfl rfl (ok_rd 0 rfl (rd_load1 rfl one9 (vl rfl) (cell1_at (f := fun t : List UInt8 => [str t]) (fun _ => rfl) (i := ((i : Nat) : Int)) (by rw [Int.toNat_natCast]; exact hyi) rfl))) ?_
    refine Ch.y h4 rfl rfl rfl rfl rfl (ok_call rfl (w_SisNaNs) ⟨ke rfl, trivial⟩) ?_
    refine Ch.ym h4 rfl rfl rfl rfl rfl rfl rfl ?_
    refine Ch.cs 48 rfl (fun h5 q5 => ?_) (fun h5 q5 => ?_)
    ·
     exact absurd h5 (by decide)
    ·
     refine Ch.nt h5 rfl rfl rfl rfl rfl ?_
     refine Ch.nt h5 rfl rfl rfl rfl rfl ?_
     refine Ch.y h4 rfl rfl rfl rfl rfl (ok_pick_f rfl (vl rfl) h5 (vl rfl)) ?_
     refine Ch.y h3 rfl rfl rfl rfl rfl (ok_pick_f rfl (vl rfl) h4 (vl rfl)) ?_
     refine Ch.oo rfl rfl rfl (ok_pick_t rfl (vl rfl) h3 (vl rfl)) ?_
     refine Ch.as rfl rfl rfl rfl rfl ?_
     refine Ch.as rfl rfl rfl rfl rfl ?_
     refine Ch.nil (Fin.go ?_)
     refine Tr.w2 4 5 rfl rfl ?_
     refine Tr.ret ?_
     refine Fin.retM2 rfl rfl ?_ rfl ?_
     · exact int_eq (by rw [hp])
     · first | (refine bool_eq ?_; rw [hasC_end hp (by omega)]) | (refine bool_eq ?_; rw [hasC_at hp hyi]; symm; rw [decide_eq_true_eq]; exact (cmp_zero _ _).2 (by simp_all)) | (refine bool_eq ?_; rw [hasC_at hp hyi]; symm; rw [decide_eq_false_iff_not]; intro h0; have := (cmp_zero _ _).1 h0; simp_all)
  ·
   iterate 7 refine Ch.nt h3 rfl rfl rfl rfl rfl ?_
   iterate 9 refine Ch.u rfl rfl rfl rfl rfl ?_
   refine Ch.nt h3 rfl rfl rfl rfl rfl ?_
   refine Ch.oo rfl rfl rfl (ok_pick_f rfl (vl rfl) h3 (vl rfl)) ?_
   refine Ch.as rfl rfl rfl rfl rfl ?_
   refine Ch.as rfl rfl rfl rfl rfl ?_
   refine Ch.nil (Fin.go ?_)
   refine Tr.w2 4 5 rfl rfl ?_
   refine Tr.ret ?_
   refine Fin.retM2 rfl rfl ?_ rfl ?_
   · exact int_eq (by rw [hp])
   · first | (refine bool_eq ?_; rw [hasC_end hp (by omega)]) | (refine bool_eq ?_; rw [hasC_at hp hyi]; symm; rw [decide_eq_true_eq]; exact (cmp_zero _ _).2 (by simp_all)) | (refine bool_eq ?_; rw [hasC_at hp hyi]; symm; rw [decide_eq_false_iff_not]; intro h0; have := (cmp_zero _ _).1 h0; simp_all)
theorem e_BSBs : Entry Try.prog 48 := ⟨_, Try.func48, rfl, rfl⟩
set_option maxRecDepth 20000 in
theorem w_BSNs {x : List UInt8}  : Fun Try.prog 48 [is (.slice none 0 0), str x] (tup [int 0, bool false]) := by
 refine Fun.of Try.func48 rfl rfl (by exact Nat.le_of_ble_eq_true rfl) fun M0 w0 => ?_
 refine Tr.seq (Tr.reg0 ?_)
 refine Ch.as rfl rfl rfl rfl rfl ?_
 refine Ch.as rfl rfl rfl rfl rfl ?_
 refine Ch.nil (Fin.go (Tr.seq (Tr.reg0 ?_)))
 refine Ch.mv rfl rfl rfl rfl rfl ?_
 refine Ch.oo rfl rfl rfl (ok_lennil rfl Try.underlying25 (vl rfl)) ?_
 refine Ch.as rfl rfl rfl rfl rfl ?_
 refine Ch.nil (Fin.go (Tr.seq (Tr.reg0 ?_)))
 refine Ch.mv rfl rfl rfl rfl rfl ?_
 refine Ch.as rfl rfl rfl rfl rfl ?_
 refine Ch.as rfl rfl rfl rfl rfl ?_
 refine Ch.nil (Fin.go (Tr.seq (Tr.block ?_)))
 refine Tr.loopw [(0, _), (1, _), (6, _)] ⟨ke rfl, ke rfl, ke rfl, trivial⟩ (fun (u : Unit) => [(7, int 0), (8, int 0)]) (fun (u : Unit) => True) (fun (u : Unit) => 0) () (trivial) ⟨ke rfl, ke rfl, trivial⟩ ?_
 rintro u _
 refine Tr.seq (Tr.seq (Tr.reg0 ?_))
 refine Ch.mv rfl rfl rfl rfl rfl ?_
 refine Ch.mv rfl rfl rfl rfl rfl ?_
 refine Ch.oo rfl rfl rfl (ok_int rfl (vl rfl) (vl rfl) rfl) ?_
 refine Ch.nil (Fin.go ?_)
 refine Tr.cn rfl (fun h1 q1 => ?_) (fun h1 q1 => ?_)
 ·
  exact absurd h1 (by decide)
 ·
  have := h1
  refine Tr.exit ?_
  refine Fin.then_exit ?_
  refine Fin.then_exit ?_
  refine Fin.block_here ?_
  refine Fin.go (Tr.seq (Tr.reg0 ?_))
  iterate 3 refine Ch.mv rfl rfl rfl rfl rfl ?_
  refine Ch.oo rfl rfl rfl (ok_int rfl (vl rfl) (vl rfl) rfl) ?_
  refine Ch.mv rfl rfl rfl rfl rfl ?_
  refine Ch.cs 35 rfl (fun h2 q2 => ?_) (fun h2 q2 => ?_)
  ·
   exact absurd h2 (by decide)
  ·
   iterate 7 refine Ch.nt h2 rfl rfl rfl rfl rfl ?_
   iterate 9 refine Ch.u rfl rfl rfl rfl rfl ?_
   refine Ch.nt h2 rfl rfl rfl rfl rfl ?_
   refine Ch.oo rfl rfl rfl (ok_pick_f rfl (vl rfl) h2 (vl rfl)) ?_
   refine Ch.as rfl rfl rfl rfl rfl ?_
   refine Ch.as rfl rfl rfl rfl rfl ?_
   refine Ch.nil (Fin.go ?_)
   refine Tr.w2 4 5 rfl rfl ?_
   refine Tr.ret ?_
   refine Fin.ret2 rfl (OutW.bse _ _) rfl ?_ rfl ?_
   · first | exact Pr.le_refl _ | (refine int_eq ?_; simp_all; done) | (refine bool_eq ?_; simp_all; done) | (refine bool_eq ?_; simp_all; omega) | (refine int_eq ?_; omega)
   · first | exact Pr.le_refl _ | (refine int_eq ?_; simp_all; done) | (refine bool_eq ?_; simp_all; done) | (refine bool_eq ?_; simp_all; omega) | (refine int_eq ?_; omega)
theorem w_BSs {l : List (List UInt8)} {x : List UInt8} {v : Value} {p : Pr} (hs : AscC Lib.compareBytes l) (hl : l.length ≤ 1000000) : FunM Try.prog 48 [andIs v p, str x] (tup [int ((posC Lib.compareBytes l x : Nat) : Int), bool (hasC Lib.compareBytes l x)]) (ownRes 9 1 (l.map (fun t : List UInt8 => [str t])) v) (fun _ => ownRes 9 1 (l.map (fun t : List UInt8 => [str t])) v) := by
  refine FunM.own_read e_BSBs (fun h0 _ => ?_) (fun b cap sp _ hc hm hq => ?_)
  · have hl0 : l = [] := by simpa using h0
    subst hl0; exact w_BSNs
  · rw [List.length_map]
    rw [List.length_map] at hc
    exact w_BSBs hs hl hc

set_option maxRecDepth 20000 in
set_option maxHeartbeats 1000000 in
theorem w_InsBs {l : List (List UInt8)} {x : List UInt8} {b0 cap i : Nat} {sp : List Value} (hi : i ≤ l.length) (hl : l.length ≤ 1000000) (hc : l.length ≤ cap) (hm : cap ≤ maxLen) (hq : sp.length = cap - l.length) : FunM Try.prog 49 [andIs (.slice (some ⟨b0, 0, none⟩) l.length cap) (lens l.length), int ((i : Nat) : Int), slice 1 [[str x]]] (lens (l.length + 1)) (cellsRes true b0 9 ((l.map (fun t : List UInt8 => [str t])).flatten ++ sp.map is)) (fun v => ownRes 9 1 ((l.take i ++ [x] ++ l.drop i).map (fun t : List UInt8 => [str t])) v) := by
 refine FunM.of Try.func49 rfl rfl (by exact Nat.le_of_ble_eq_true rfl) fun M0 w0 S rs M1 w1 => ?_
 have hv2 : ([[str x]] : List (List Pr)).flatten.length = 1 := rfl
 have hv1 : ([[str x]] : List (List Pr)).length = 1 := rfl
 have hAl : ((l.map (fun t : List UInt8 => [str t])).flatten).length = l.length := by rw [flat_len (sz := 1) (map_rows fun _ => rfl), List.length_map]; omega
 have e1 : (((i : Nat) : Int) + (1 : Int)).toNat = i + 1 := by omega
 have e2 : ((i : Nat) : Int).toNat = i := by omega
 refine Tr.seq (Tr.reg0 ?_)
 refine Ch.as rfl rfl rfl rfl rfl ?_
 refine Ch.nil (Fin.go (Tr.seq (Tr.reg0 ?_)))
 refine Ch.mv rfl rfl rfl rfl rfl ?_
 refine Ch.mv rfl rfl rfl rfl rfl ?_
 refine Ch.oo rfl rfl rfl (okb_sliceAny rfl Try.underlying25 sz9 ⟨_, rfl, andIs_is _ _⟩ (vl rfl) (by omega) (by omega) (by omega)) ?_
 refine Ch.nil (Fin.go (Tr.seq (Tr.reg0 ?_)))
 refine Ch.mv rfl rfl rfl rfl rfl ?_
 first
  | refine Ch.oo rfl rfl rfl (ok_lenm rfl Try.underlying25 (vl rfl)) ?_
  | refine Ch.oo rfl rfl rfl (ok_len rfl Try.underlying25 (vl rfl)) ?_
 refine Ch.as rfl rfl rfl rfl rfl ?_
 refine Ch.nil (Fin.go (Tr.seq (Tr.seq (Tr.reg0 ?_))))
 refine Ch.mv rfl rfl rfl rfl rfl ?_
 refine Ch.oo rfl rfl rfl (ok_int rfl (vl rfl) (vl rfl) rfl) ?_
 refine Ch.nil (Fin.go ?_)
 refine Tr.cn rfl (fun h1 q1 => ?_) (fun h1 q1 => ?_)
 ·
  simp at h1
 ·
  refine Tr.skip (Fin.go (Tr.seq (Tr.reg0 ?_)))
  refine Ch.mv rfl rfl rfl rfl rfl ?_
  refine Ch.oo rfl rfl rfl (okb_len rfl Try.underlying25 ⟨_, rfl, andIs_is _ _⟩) ?_
  refine Ch.as rfl rfl rfl rfl rfl ?_
  refine Ch.nil (Fin.go (Tr.seq (Tr.seq (Tr.reg0 ?_))))
  refine Ch.mv rfl rfl rfl rfl rfl ?_
  refine Ch.mv rfl rfl rfl rfl rfl ?_
  refine Ch.oo rfl rfl rfl (ok_int rfl (vl rfl) (vl rfl) rfl) ?_
  refine Ch.nil (Fin.go ?_)
  refine Tr.w6 0 1 2 7 8 22 rfl rfl rfl rfl rfl rfl ?_
  refine Tr.cn rfl (fun h2 q2 => ?_) (fun h2 q2 => ?_)
  ·
   refine Tr.seq ?_
   refine Tr.closeG (sz := 1) 0 rfl (rows := l.map (fun t : List UInt8 => [str t])) (sp := sp) rfl (by simp) hc hm (by omega) ?_
   refine Tr.regT ?_
   refine TO.mv rfl rfl rfl rfl rfl ?_
   refine TO.mv rfl rfl rfl rfl rfl ?_
   refine TO.efs 0 rfl rfl (by decide) (ef_appmut rfl rfl (by decide) rfl Try.underlying25 sz9 by9 z9 rfl (by decide) (by decide) (vl rfl) (vl rfl) (map_rows fun _ => rfl) (Nat.zero_lt_succ _) (by simp only [List.length_map, List.length_cons, List.length_nil]; unfold maxLen; omega) (by simp only [List.length_map, List.length_cons, List.length_nil]; omega)) (fun v1 => ?_)
   refine TO.as rfl rfl rfl rfl rfl ?_
   refine TO.nil (Fin.go (Tr.ret ?_))
   refine Fin.then_ret ?_
   refine Fin.retM1 rfl rfl ?_ (by rintro _ _ _ ⟨rfl, _⟩; rw [show i = l.length by omega, List.take_length, List.drop_length, List.append_nil, List.map_append]; rfl)
   · exact Pr.le_trans (andIs_le _ _) (Pr.le_of_eq (by simp))
  ·
   refine Tr.skip (Fin.go (Tr.seq (Tr.seq (Tr.reg0 ?_))))
   refine Ch.mv rfl rfl rfl rfl rfl ?_
   refine Ch.mv rfl rfl rfl rfl rfl ?_
   first
    | (refine Ch.oo rfl rfl rfl (ok_add rfl (vl rfl) (vl rfl) ?hin) ?_; case hin => unfold InI; omega)
    | refine Ch.oo rfl rfl rfl (ok_int rfl (vl rfl) (vl rfl) rfl) ?_
   refine Ch.mv rfl rfl rfl rfl rfl ?_
   refine Ch.oo rfl rfl rfl (okb_cap rfl Try.underlying25 ⟨_, rfl, andIs_is _ _⟩) ?_
   refine Ch.oo rfl rfl rfl (ok_int rfl (vl rfl) (vl rfl) rfl) ?_
   refine Ch.nil (Fin.go ?_)
   refine Tr.cn rfl (fun h3 q3 => ?_) (fun h3 q3 => ?_)
   ·
    refine Tr.seq (Tr.regT ?_)
    refine TO.mv rfl rfl rfl rfl rfl ?_
    refine TO.mv rfl rfl rfl rfl rfl ?_
    refine TO.oo rfl rfl rfl (okb_sliceTo rfl Try.underlying25 sz9 ⟨_, rfl, andIs_is _ _⟩ (vl rfl) (by omega) (by omega) (by omega) (by omega)) ?_
    refine TO.mv rfl rfl rfl rfl rfl ?_
    refine TO.mv rfl rfl rfl rfl rfl ?_
    first
     | (refine TO.oo rfl rfl rfl (ok_add rfl (vl rfl) (vl rfl) ?hin) ?_; case hin => unfold InI; omega)
     | refine TO.oo rfl rfl rfl (ok_int rfl (vl rfl) (vl rfl) rfl) ?_
    refine TO.mv rfl rfl rfl rfl rfl ?_
    first
     | (refine TO.oo rfl rfl rfl (ok_sub rfl (vl rfl) (vl rfl) ?hin) ?_; case hin => unfold InI; omega)
     | refine TO.oo rfl rfl rfl (ok_int rfl (vl rfl) (vl rfl) rfl) ?_
    refine TO.pad ?_
    refine TO.appzs 0 1 rfl rfl rfl rfl (by decide) rfl Try.underlying25 Try.underlying3 sz9 by9 z9 rfl (by decide) (by decide) (vl rfl) (vl rfl) (i := i) (k := l.length + 1 - i) (by omega) (by simp only [List.length_append, List.length_take, List.length_drop, List.length_map, hAl, hv1, hv2, Nat.mul_one]; omega) (by omega) (by omega) (by unfold maxLen; omega) (by omega) (fun b1 cap1 sp1 hg1 hm1 hs1 => ?_)
    refine TO.as rfl rfl rfl rfl rfl ?_
    refine TO.nil (Fin.go ?_)
    refine Tr.w5 0 1 2 7 9 rfl rfl rfl rfl rfl ?_
    refine Tr.seq ?_
    have hsz : sp1.length = cap1 - i := by have := hs1; rw [List.length_take, List.length_append, hAl, Nat.mul_one, Nat.mul_one] at this; omega
    refine Tr.frzS (sz := 1) (l.map (fun t : List UInt8 => [str t])) 1 0 rfl rfl (Pr.le_trans (andIs_is _ _) (Pr.le_of_eq (by simp))) (map_rows fun _ => rfl) (by rw [List.length_map]; exact hc) hm (by rw [List.length_map, List.length_map]; omega) ?_
    refine Tr.regT ?_
    refine TO.mv rfl rfl rfl rfl rfl ?_
    refine TO.mv rfl rfl rfl rfl rfl ?_
    refine TO.oo rfl rfl rfl (okb_sliceFrom rfl Try.underlying25 sz9 (vl rfl) (vl rfl) (by omega) (by omega) (by omega)) ?_
    refine TO.mv rfl rfl rfl rfl rfl ?_
    refine TO.efc 0 rfl rfl (by decide) (ef_copyS rfl rfl rfl Try.underlying25 sz9 (by decide) (vl rfl) (vl rfl) (by omega) (by omega) (by simp only [List.length_append, List.length_take, List.length_drop, List.length_map, hAl, hv1, hv2, Nat.mul_one]; omega) rfl) ?_
    refine TO.nil (Fin.go (Tr.seq ?_))
    refine Tr.regX mixed [none, none, none, none, none, none, none, none, some (0, 0, true, 0)] (by kernel_rfl) ?_
    iterate 3 refine Cx.mv rfl rfl rfl rfl rfl ?_
    first
     | (refine Cx.oo rfl rfl rfl (fun _ => ok_add rfl (vl rfl) (vl rfl) ?hin) ?_; case hin => unfold InI; omega)
     | refine Cx.oo rfl rfl rfl (fun _ => ok_int rfl (vl rfl) (vl rfl) rfl) ?_
    refine Cx.oo rfl rfl rfl (fun _ => okb_sliceFrom rfl Try.underlying25 sz9 (vl rfl) (vl rfl) (by omega) (by omega) (by omega)) ?_
    refine Cx.mv rfl rfl rfl rfl rfl ?_
    refine Cx.mv rfl rfl rfl rfl rfl ?_
    refine Cx.oo rfl rfl rfl (fun _ => ok_sliceFrom rfl Try.underlying25 sz9 ⟨_, rfl, andIs_le _ _⟩ (vl rfl) (by omega) (by first | omega | (simp; omega))) ?_
    refine Cx.ef 0 rfl rfl (by decide) (ef_copyS rfl rfl rfl Try.underlying25 sz9 (by decide) (vl rfl) (vl rfl) (by simp only [List.length_append, List.length_take, List.length_drop, List.length_map, hAl, hv1, hv2, Nat.mul_one]; omega) (by simp only [List.length_append, List.length_take, List.length_drop, List.length_map, hAl, hv1, hv2, Nat.mul_one]; omega) (by simp only [List.length_append, List.length_take, List.length_drop, List.length_map, hAl, hv1, hv2, Nat.mul_one]; omega) rfl) ?_
    refine Cx.nil ⟨rfl, ?_⟩
    refine FinX.done (AllC.cons (AllC.cons (AllC.cons (AllC.map _)))) ?_
    refine Fin.go ?_
    refine Tr.w1 9 rfl ?_
    refine Tr.seq (Tr.reg0 ?_)
    refine Ch.mv rfl rfl rfl rfl rfl ?_
    refine Ch.as rfl rfl rfl rfl rfl ?_
    refine Ch.nil (Fin.go (Tr.ret ?_))
    refine Fin.then_ret ?_
    refine Fin.closeH (sz := 1) 0 rfl (rows := ((l.take i ++ [x] ++ l.drop i).map (fun t : List UInt8 => [str t]))) (sp := sp1.drop (l.length + 1 - i)) (m := i + (l.length + 1 - i)) (ins_grown2 (i := i) (Z := sp1.map is) (n := l.length) hAl (by omega) (by rw [List.length_map]; omega) (by omega) (by omega) (by omega) (by omega) (by rw [List.length_drop, List.length_map]; omega) rfl (by rw [← List.map_drop, flat_drop1 (f := fun t : List UInt8 => [str t]) (fun _ => rfl), e2]) (by rw [List.map_drop, ← flat_ins (f := fun t : List UInt8 => [str t]) (l := l) (i := i) (x := x) (fun _ => rfl) rfl])) (by simp only [List.length_map, List.length_append, List.length_take, List.length_drop, List.length_cons, List.length_nil]; omega) (by omega) hm1 (by rw [List.length_drop]; omega) ?_
    refine Fin.drop 1 ?_
    refine Fin.retM1 rfl rfl ?_ (by rintro _ _ _ rfl; rfl)
    · rintro _ _ _ rfl; exact ⟨_, _, by first | rfl | (congr 1; done) | (congr 1; omega)⟩
   ·
    refine Tr.skip (Fin.go (Tr.seq (Tr.reg0 ?_)))
    iterate 3 refine Ch.mv rfl rfl rfl rfl rfl ?_
    first
     | (refine Ch.oo rfl rfl rfl (ok_add rfl (vl rfl) (vl rfl) ?hin) ?_; case hin => unfold InI; omega)
     | refine Ch.oo rfl rfl rfl (ok_int rfl (vl rfl) (vl rfl) rfl) ?_
    refine Ch.oo rfl rfl rfl (okb_sliceCap rfl Try.underlying25 sz9 ⟨_, rfl, andIs_is _ _⟩ (vl rfl) (by omega) (by omega) (by omega)) ?_
    refine Ch.as rfl rfl rfl rfl rfl ?_
    refine Ch.nil (Fin.go ?_)
    refine Tr.w5 0 1 2 7 8 rfl rfl rfl rfl rfl ?_
    refine Tr.seq (Tr.seq (Tr.regT ?_))
    iterate 4 refine TO.mv rfl rfl rfl rfl rfl ?_
    first
     | (refine TO.oo rfl rfl rfl (ok_add rfl (vl rfl) (vl rfl) ?hin) ?_; case hin => unfold InI; omega)
     | refine TO.oo rfl rfl rfl (ok_int rfl (vl rfl) (vl rfl) rfl) ?_
    refine TO.oo rfl rfl rfl (okb_sliceFrom rfl Try.underlying25 sz9 (vl rfl) (vl rfl) (by omega) (by omega) (by omega)) ?_
    refine TO.rd 0 rfl rfl rfl (by decide) (rd_overlaps (tR := 4) rfl Try.func85 (by kernel_rfl) (by kernel_rfl) (by kernel_rfl) (by kernel_rfl) Try.underlying25 sz9 (by decide) (vl rfl) (by exact Nat.zero_lt_succ _) (vl rfl) (by simp only [List.length_append, List.length_take, List.length_drop, List.length_map, hAl, hv1, hv2, Nat.mul_one]; omega)) ?_
    refine TO.oo rfl rfl rfl (ok_not rfl (vl rfl)) ?_
    refine TO.nil (Fin.go ?_)
    refine Tr.cn rfl (fun h4 q4 => ?_) (fun h4 q4 => ?_)
    ·
     refine Tr.seq ?_
     refine Tr.regX mixed [none, none, none, none, none, none, none, none, some (0, 0, true, 0)] (by kernel_rfl) ?_
     iterate 3 refine Cx.mv rfl rfl rfl rfl rfl ?_
     first
      | (refine Cx.oo rfl rfl rfl (fun _ => ok_add rfl (vl rfl) (vl rfl) ?hin) ?_; case hin => unfold InI; omega)
      | refine Cx.oo rfl rfl rfl (fun _ => ok_int rfl (vl rfl) (vl rfl) rfl) ?_
     refine Cx.oo rfl rfl rfl (fun _ => okb_sliceFrom rfl Try.underlying25 sz9 (vl rfl) (vl rfl) (by omega) (by omega) (by omega)) ?_
     refine Cx.mv rfl rfl rfl rfl rfl ?_
     refine Cx.mv rfl rfl rfl rfl rfl ?_
     refine Cx.oo rfl rfl rfl (fun _ => okb_sliceFrom rfl Try.underlying25 sz9 (vl rfl) (vl rfl) (by omega) (by omega) (by omega)) ?_
     refine Cx.ef 0 rfl rfl (by decide) (ef_copyB (m := l.length - i) rfl rfl rfl Try.underlying25 sz9 (vl rfl) (vl rfl) (by show _ = min _ _; omega) (by simp only [List.length_append, List.length_take, List.length_drop, List.length_map, hAl, hv1, hv2, Nat.mul_one]; omega) (by simp only [List.length_append, List.length_take, List.length_drop, List.length_map, hAl, hv1, hv2, Nat.mul_one]; omega) rfl) ?_
     refine Cx.nil ⟨rfl, ?_⟩
     refine FinX.done (AllC.cons (AllC.cons (AllC.map _))) ?_
     refine Fin.go ?_
     refine Tr.w3 0 1 2 rfl rfl rfl ?_
     refine Tr.seq (Tr.regT ?_)
     refine TO.mv rfl rfl rfl rfl rfl ?_
     refine TO.mv rfl rfl rfl rfl rfl ?_
     refine TO.oo rfl rfl rfl (okb_sliceFrom rfl Try.underlying25 sz9 (vl rfl) (vl rfl) (by omega) (by omega) (by omega)) ?_
     refine TO.mv rfl rfl rfl rfl rfl ?_
     refine TO.efc 0 rfl rfl (by decide) (ef_copyS rfl rfl rfl Try.underlying25 sz9 (by decide) (vl rfl) (vl rfl) (by omega) (by omega) (by simp only [List.length_append, List.length_take, List.length_drop, List.length_map, hAl, hv1, hv2, Nat.mul_one]; omega) rfl) ?_
     refine TO.nil (Fin.go (Tr.seq (Tr.reg0 ?_)))
     refine Ch.mv rfl rfl rfl rfl rfl ?_
     refine Ch.as rfl rfl rfl rfl rfl ?_
     refine Ch.nil (Fin.go (Tr.ret ?_))
     refine Fin.then_ret ?_
     refine Fin.closeH (sz := 1) 0 rfl (rows := ((l.take i ++ [x] ++ l.drop i).map (fun t : List UInt8 => [str t]))) (sp := sp.drop 1) (m := l.length + 1) (ins_place2 (i := i) (S := sp.map is) (n := l.length) hAl (by omega) (by rw [List.length_map]; omega) (by omega) (by omega) (by omega) (by omega) (by omega) (by omega) rfl (by rw [List.map_drop, ← flat_ins (f := fun t : List UInt8 => [str t]) (l := l) (i := i) (x := x) (fun _ => rfl) rfl])) (by simp only [List.length_map, List.length_append, List.length_take, List.length_drop, List.length_cons, List.length_nil]; omega) (by omega) hm (by rw [List.length_drop]; omega) ?_
     refine Fin.retM1 rfl rfl ?_ (by rintro _ _ _ rfl; first | rfl | (congr 2; done) | (congr 2; omega))
     · rintro _ _ _ rfl; exact ⟨_, _, by first | rfl | (congr 1; done) | (congr 1; omega)⟩
    ·
     exact absurd h4 (by decide)
theorem e_InsBs : Entry Try.prog 49 := ⟨_, Try.func49, rfl, rfl⟩
set_option maxRecDepth 20000 in
theorem w_InsNs {x : List UInt8}  : FunM Try.prog 49 [is (.slice none 0 0), int ((0 : Nat) : Int), slice 1 [[str x]]] (lens 1) (noRes) (fun v => mutRes 9 1 [[str x]] v) := by
 refine FunM.of Try.func49 rfl rfl (by exact Nat.le_of_ble_eq_true rfl) fun M0 w0 S rs M1 w1 => ?_
 have hv1 : ([[str x]] : List (List Pr)).length = 1 := rfl
 refine Tr.seq (Tr.reg0 ?_)
 refine Ch.as rfl rfl rfl rfl rfl ?_
 refine Ch.nil (Fin.go (Tr.seq (Tr.reg0 ?_)))
 refine Ch.mv rfl rfl rfl rfl rfl ?_
 refine Ch.mv rfl rfl rfl rfl rfl ?_
 refine Ch.oo rfl rfl rfl (ok_sliceFrom rfl Try.underlying25 sz9 ⟨_, rfl, nil_slice _⟩ (vl rfl) (by omega) (by first | omega | (simp; omega))) ?_
 refine Ch.nil (Fin.go (Tr.seq (Tr.reg0 ?_)))
 refine Ch.mv rfl rfl rfl rfl rfl ?_
 first
  | refine Ch.oo rfl rfl rfl (ok_lenm rfl Try.underlying25 (vl rfl)) ?_
  | refine Ch.oo rfl rfl rfl (ok_len rfl Try.underlying25 (vl rfl)) ?_
 refine Ch.as rfl rfl rfl rfl rfl ?_
 refine Ch.nil (Fin.go (Tr.seq (Tr.seq (Tr.reg0 ?_))))
 refine Ch.mv rfl rfl rfl rfl rfl ?_
 refine Ch.oo rfl rfl rfl (ok_int rfl (vl rfl) (vl rfl) rfl) ?_
 refine Ch.nil (Fin.go ?_)
 refine Tr.cn rfl (fun h1 q1 => ?_) (fun h1 q1 => ?_)
 ·
  simp at h1
 ·
  refine Tr.skip (Fin.go (Tr.seq (Tr.reg0 ?_)))
  refine Ch.mv rfl rfl rfl rfl rfl ?_
  refine Ch.oo rfl rfl rfl (ok_lennil rfl Try.underlying25 (vl rfl)) ?_
  refine Ch.as rfl rfl rfl rfl rfl ?_
  refine Ch.nil (Fin.go (Tr.seq (Tr.seq (Tr.reg0 ?_))))
  refine Ch.mv rfl rfl rfl rfl rfl ?_
  refine Ch.mv rfl rfl rfl rfl rfl ?_
  refine Ch.oo rfl rfl rfl (ok_int rfl (vl rfl) (vl rfl) rfl) ?_
  refine Ch.nil (Fin.go ?_)
  refine Tr.w6 0 1 2 7 8 22 rfl rfl rfl rfl rfl rfl ?_
  refine Tr.cn rfl (fun h2 q2 => ?_) (fun h2 q2 => ?_)
  ·
   refine Tr.seq (Tr.regT ?_)
   refine TO.mv rfl rfl rfl rfl rfl ?_
   refine TO.mv rfl rfl rfl rfl rfl ?_
   refine TO.pad ?_
   refine TO.efs 0 rfl rfl (by decide) (ef_appvoid rfl rfl (by decide) rfl Try.underlying25 sz9 by9 z9 rfl (by decide) (by decide) ⟨_, rfl, nil_full 1⟩ (vl rfl) (by simp) (by simp; unfold maxLen; omega) (by simp)) (fun v1 => ?_)
   refine TO.as rfl rfl rfl rfl rfl ?_
   refine TO.nil (Fin.go (Tr.ret ?_))
   refine Fin.then_ret ?_
   refine Fin.drop 1 ?_
   refine Fin.retM1 rfl rfl ?_ (by intro _ _ _ h; rw [h.1])
   · exact Pr.le_trans (andIs_le _ _) (Pr.le_refl _)
  ·
   exact absurd h2 (by decide)
theorem w_Inss {l : List (List UInt8)} {x : List UInt8} {v : Value} {p : Pr} {i : Nat} (hi : i ≤ l.length) (hl : l.length ≤ 1000000) : FunM Try.prog 49 [andIs v p, int ((i : Nat) : Int), slice 1 [[str x]]] (lens (l.length + 1)) (ownRes 9 1 (l.map (fun t : List UInt8 => [str t])) v) (fun v => ownRes 9 1 ((l.take i ++ [x] ++ l.drop i).map (fun t : List UInt8 => [str t])) v) := by
  refine FunM.own_cases e_InsBs (fun h0 _ => ?_) (fun b cap sp _ hc hm hq => ?_)
  · have hl0 : l = [] := by simpa using h0
    subst hl0
    have hi0 : i = 0 := by simpa using hi
    subst hi0
    exact FunM.own_of_mut w_InsNs
  · rw [List.length_map] at hc hq ⊢
    exact w_InsBs hi hl hc hm (by omega)
set_option maxRecDepth 20000 in
theorem w_inss {l : List (List UInt8)} {x : List UInt8} {v : Value} (hs : AscC Lib.compareBytes l) (hl : l.length ≤ 1000000) : FunM Try.prog 23 [andIs v (lens l.length), str x] (lens (insC Lib.compareBytes l x).length) (ownRes 9 1 (l.map (fun t : List UInt8 => [str t])) v) (fun v => ownRes 9 1 ((insC Lib.compareBytes l x).map (fun t : List UInt8 => [str t])) v) := by
 refine FunM.of Try.func23 rfl rfl (by exact Nat.le_of_ble_eq_true rfl) fun M0 w0 S rs M1 w1 => ?_
 refine Tr.seq (Tr.reg0 ?_)
 refine Ch.as rfl rfl rfl rfl rfl ?_
 refine Ch.nil (Fin.go (Tr.seq (Tr.regT ?_)))
 refine TO.mv rfl rfl rfl rfl rfl ?_
 refine TO.mv rfl rfl rfl rfl rfl ?_
 refine TO.efc 0 rfl rfl (by decide) (ef_callc rfl rfl (by decide) rfl (w_BSs (l := l) (x := x) hs hl) ⟨ke rfl, ke rfl, trivial⟩) ?_
 refine TO.mv rfl rfl rfl rfl rfl ?_
 refine TO.oo rfl rfl rfl (ok_extract rfl (vl rfl) rfl) ?_
 refine TO.oo rfl rfl rfl (ok_extract rfl (vl rfl) rfl) ?_
 refine TO.as rfl rfl rfl rfl rfl ?_
 refine TO.as rfl rfl rfl rfl rfl ?_
 refine TO.nil (Fin.go (Tr.seq (Tr.seq (Tr.reg0 ?_))))
 refine Ch.mv rfl rfl rfl rfl rfl ?_
 refine Ch.nil (Fin.go ?_)
 refine Tr.cn rfl (fun h1 q1 => ?_) (fun h1 q1 => ?_)
 ·
  have hE := insC_has (c := Lib.compareBytes) (l := l) (x := x) h1
  refine Tr.seq (Tr.reg0 ?_)
  refine Ch.mv rfl rfl rfl rfl rfl ?_
  refine Ch.as rfl rfl rfl rfl rfl ?_
  refine Ch.nil (Fin.go (Tr.ret ?_))
  refine Fin.then_ret ?_
  refine Fin.retM1 rfl rfl ?_ (by rintro _ _ _ ⟨rfl, _⟩; rw [hE])
  · rw [hE]; exact andIs_le _ _
 ·
  have hE := insC_not (c := Lib.compareBytes) (l := l) (x := x) h1
  have hp := posC_le Lib.compareBytes l x
  refine Tr.skip (Fin.go (Tr.seq (Tr.regT ?_)))
  iterate 3 refine TO.mv rfl rfl rfl rfl rfl ?_
  refine TO.oo rfl rfl rfl (ok_buildSlice (xs := [.tmp 17]) (rows := [[_]]) rfl rfl Try.underlying25 sz9 z9 rfl (by decide) ⟨⟨(by exact rfl), (VL.le (vl rfl) (one_cellsP _))⟩, trivial⟩ (by decide)) ?_
  refine TO.efs 0 rfl rfl (by decide) (ef_call rfl rfl (by decide) rfl (w_Inss (l := l) (x := x) (i := posC Lib.compareBytes l x) (posC_le _ _ _) hl) ⟨ke rfl, ke rfl, ⟨_, rfl, full_le _ _⟩, trivial⟩) (fun v1 => ?_)
  refine TO.as rfl rfl rfl rfl rfl ?_
  refine TO.nil (Fin.go ?_)
  refine Tr.w1 4 rfl ?_
  refine Tr.ret ?_
  refine Fin.retM1 rfl rfl ?_ (by rintro _ _ _ ⟨rfl, _⟩; rw [hE])
  · rw [hE]; exact Pr.le_trans (andIs_le _ _) (Pr.le_of_eq (by congr 1; simp; omega))
set_option maxRecDepth 20000 in
theorem w_BSBi {l : List (Int)} {x : Int} {b0 cap : Nat} {sp : List Value} (hs : AscC cmpI l) (hl : l.length ≤ 1000000) (hcap : l.length ≤ cap) : FunM Try.prog 50 [andIs (.slice (some ⟨b0, 0, none⟩) l.length cap) (lens l.length), int x] (tup [int ((posC cmpI l x : Nat) : Int), bool (hasC cmpI l x)]) (cellsRes true b0 3 ((l.map (fun t : Int => [int t])).flatten ++ sp.map is)) (fun _ => cellsRes true b0 3 ((l.map (fun t : Int => [int t])).flatten ++ sp.map is)) := by
 refine FunM.of Try.func50 rfl rfl (by exact Nat.le_of_ble_eq_true rfl) fun M0 w0 S rs M1 w1 => ?_
 refine Tr.seq (Tr.reg0 ?_)
 refine Ch.as rfl rfl rfl rfl rfl ?_
 refine Ch.as rfl rfl rfl rfl rfl ?_
 refine Ch.nil (Fin.go (Tr.seq (Tr.reg0 ?_)))
 refine Ch.mv rfl rfl rfl rfl rfl ?_
 refine Ch.oo rfl rfl rfl (okb_len rfl Try.underlying26 ⟨_, rfl, andIs_is _ _⟩) ?_
 refine Ch.as rfl rfl rfl rfl rfl ?_
 refine Ch.nil (Fin.go (Tr.seq (Tr.reg0 ?_)))
 refine Ch.mv rfl rfl rfl rfl rfl ?_
 refine Ch.as rfl rfl rfl rfl rfl ?_
 refine Ch.as rfl rfl rfl rfl rfl ?_
 refine Ch.nil (Fin.go (Tr.seq (Tr.block ?_)))
 refine Tr.loopD2V0 [(0, _), (1, _), (6, _)] ⟨ke rfl, ke rfl, ke rfl, trivial⟩ (fun (i : Nat) (j : Nat) => [(7, int ((i : Nat) : Int)), (8, int ((j : Nat) : Int))]) (fun (i : Nat) (j : Nat) => Hp M0 w0 S (cellsRes true b0 3 ((l.map (fun t : Int => [int t])).flatten ++ sp.map is) :: extRes M1 w1 :: rs)) (fun (i : Nat) (j : Nat) => i ≤ j ∧ j ≤ l.length ∧ (∀ (k : Nat) y, k < i → l[k]? = some y → cmpI y x < 0) ∧ (∀ (k : Nat) y, j ≤ k → l[k]? = some y → ¬ cmpI y x < 0)) (fun (i : Nat) (j : Nat) => j - i) (0) (l.length)  (⟨Nat.zero_le _, Nat.le_refl _, fun k y h => absurd h (Nat.not_lt_zero _), fun k y h1 h2 => by rw [List.getElem?_eq_none h1] at h2; cases h2⟩) ⟨ke rfl, ke rfl, trivial⟩ (fun _ _ h => h) ?_
 rintro i j  ⟨hi1, hi2, hi3, hi4⟩
 refine Tr.seq (Tr.seq (Tr.reg0 ?_))
 refine Ch.mv rfl rfl rfl rfl rfl ?_
 refine Ch.mv rfl rfl rfl rfl rfl ?_
 refine Ch.oo rfl rfl rfl (ok_int rfl (vl rfl) (vl rfl) rfl) ?_
 refine Ch.nil (Fin.go ?_)
 refine Tr.cn rfl (fun h1 q1 => ?_) (fun h1 q1 => ?_)
 ·
  have hij : i < j := by have := of_decide_eq_true h1; omega
  obtain ⟨y, hyn⟩ := at_ (l := l) (k := (i + j) / 2) (by omega)
  have hy : l[((((i : Nat) : Int) + ((j : Nat) : Int)) / 2).toNat]? = some y := by rw [show ((((i : Nat) : Int) + ((j : Nat) : Int)) / 2).toNat = (i + j) / 2 by omega]; exact hyn
  refine Tr.skip (Fin.go (Tr.block (Tr.seq (Tr.reg0 ?_))))
  refine Ch.mv rfl rfl rfl rfl rfl ?_
  refine Ch.mv rfl rfl rfl rfl rfl ?_
  first
   | (refine Ch.oo rfl rfl rfl (ok_add rfl (vl rfl) (vl rfl) ?hin) ?_; case hin => unfold InI; omega)
   | refine Ch.oo rfl rfl rfl (ok_int rfl (vl rfl) (vl rfl) rfl) ?_
  refine Ch.oo rfl rfl rfl (ok_convU rfl Try.underlying3 Try.underlying90 (vl rfl) (by omega) (by omega)) ?_
  refine Ch.oo rfl rfl rfl (ok_half rfl (vl rfl) (vl rfl) (by omega)) ?_
  first
   | refine Ch.oo rfl rfl rfl (ok_convI rfl Try.underlying90 Try.underlying3 (vl rfl) (by unfold InI; omega)) ?_
   | refine Ch.oo rfl rfl rfl (ok_conv rfl Try.underlying90 Try.underlying3 (vl rfl)) ?_
  refine Ch.as rfl rfl rfl rfl rfl ?_
  refine Ch.nil (Fin.go ?_)
  refine Tr.w6 0 1 6 7 8 9 rfl rfl rfl rfl rfl rfl ?_
  refine Tr.seq (Tr.reg0 ?_)
  refine Ch.mv rfl rfl rfl rfl rfl ?_
  refine Ch.mv rfl rfl rfl rfl rfl ?_
  refine Ch.oo rfl rfl rfl (okp_indexSl rfl Try.underlying26 sz3 ⟨_, rfl, andIs_is _ _⟩ (vl rfl) (by omega) (by omega)) ?_
  refine Ch.oo rfl rfl rfl (ok_rd 0 rfl (rd_load1 rfl one3 (vl rfl) (cell1_at (f := fun t : Int => [int t]) (fun _ => rfl) (i := (((i : Nat) : Int) + ((j : Nat) : Int)) / 2) hy rfl))) ?_
  refine Ch.mv rfl rfl rfl rfl rfl ?_
  refine Ch.oo rfl rfl rfl (ok_call rfl (w_lessI) ⟨ke rfl, ke rfl, trivial⟩) ?_
  refine Ch.nil (Fin.go ?_)
  refine Tr.cn rfl (fun h2 q2 => ?_) (fun h2 q2 => ?_)
  ·
   have hlt := q2
   refine Tr.reg0 ?_
   refine Ch.mv rfl rfl rfl rfl rfl ?_
   first
    | (refine Ch.oo rfl rfl rfl (ok_add rfl (vl rfl) (vl rfl) ?hin) ?_; case hin => unfold InI; omega)
    | refine Ch.oo rfl rfl rfl (ok_int rfl (vl rfl) (vl rfl) rfl) ?_
   refine Ch.as rfl rfl rfl rfl rfl ?_
   refine Ch.nil (Fin.block ?_)
   exact Fin.famD2V0 ((i + j) / 2 + 1) (j)  (⟨⟨by omega, by omega, bs_lt cmp_int hs hyn (by unfold cmpI; rw [if_pos (by omega)]; omega), hi4⟩, by omega⟩) ⟨⟨_, rfl, int_eq (by omega)⟩, ⟨_, rfl, int_eq (by omega)⟩, ke rfl, ke rfl, ke rfl, trivial⟩ (fun _ _ h => h)
  ·
   have hlt := q2
   refine Tr.reg0 ?_
   refine Ch.mv rfl rfl rfl rfl rfl ?_
   refine Ch.as rfl rfl rfl rfl rfl ?_
   refine Ch.nil (Fin.block ?_)
   exact Fin.famD2V0 (i) ((i + j) / 2)  (⟨⟨by omega, by omega, hi3, bs_ge cmp_int hs hyn (by unfold cmpI; rw [if_neg (by omega)]; split <;> omega)⟩, by omega⟩) ⟨⟨_, rfl, int_eq (by omega)⟩, ⟨_, rfl, int_eq (by omega)⟩, ke rfl, ke rfl, ke rfl, trivial⟩ (fun _ _ h => h)
 ·
  obtain rfl : i = j := (by have := of_decide_eq_false h1; omega)
  have hp : posC cmpI l x = i := posC_eq (by omega) hi3 (fun y hy => hi4 i y (by omega) hy)
  refine Tr.exit ?_
  refine Fin.then_exit ?_
  refine Fin.then_exit ?_
  refine Fin.block_here ?_
  refine Fin.go (Tr.seq (Tr.reg0 ?_))
  iterate 3 refine Ch.mv rfl rfl rfl rfl rfl ?_
  refine Ch.oo rfl rfl rfl (ok_int rfl (vl rfl) (vl rfl) rfl) ?_
  refine Ch.mv rfl rfl rfl rfl rfl ?_
  refine Ch.cs 35 rfl (fun h3 q3 => ?_) (fun h3 q3 => ?_)
  ·
   obtain ⟨y, hyi⟩ := at_ (l := l) (k := i) (by omega)
   refine Ch.ym h3 rfl rfl rfl rfl rfl rfl rfl ?_
   refine Ch.ym h3 rfl rfl rfl rfl rfl rfl rfl ?_
   refine Ch.y h3 rfl rfl rfl rfl rfl (okp_indexSl rfl Try.underlying26 sz3 ⟨_, rfl, andIs_is _ _⟩ (vl rfl) (by omega) (by omega)) ?_
   refine Ch.y h3 rfl rfl rfl rfl rfl (ok_rd 0 rfl (rd_load1 rfl one3 (vl rfl) (cell1_at (f := fun t : Int => [int t]) (fun _ => rfl) (i := ((i : Nat) : Int)) (by rw [Int.toNat_natCast]; exact hyi) rfl))) ?_
   refine Ch.ym h3 rfl rfl rfl rfl rfl rfl rfl ?_
   refine Ch.y h3 rfl rfl rfl rfl rfl (ok_int rfl (vl rfl) (vl rfl) rfl) ?_
   refine Ch.ym h3 rfl rfl rfl rfl rfl rfl rfl ?_
   refine Ch.cs 42 rfl (fun h4 q4 => ?_) (fun h4 q4 => ?_)
   ·
    iterate 6 refine Ch.nf h4 rfl rfl rfl rfl rfl ?_
    refine Ch.u rfl rfl rfl rfl rfl ?_
    refine Ch.u rfl rfl rfl rfl rfl ?_
    refine Ch.nf h4 rfl rfl rfl rfl rfl ?_
    refine Ch.y h3 rfl rfl rfl rfl rfl (ok_pick_t rfl (vl rfl) h4 (vl rfl)) ?_
    refine Ch.oo rfl rfl rfl (ok_pick_t rfl (vl rfl) h3 (vl rfl)) ?_
    refine Ch.as rfl rfl rfl rfl rfl ?_
    refine Ch.as rfl rfl rfl rfl rfl ?_
    refine Ch.nil (Fin.go ?_)
    refine Tr.w2 4 5 rfl rfl ?_
    refine Tr.ret ?_
    refine Fin.retM2 rfl rfl ?_ rfl ?_
    · exact int_eq (by rw [hp])
    · first | (refine bool_eq ?_; rw [hasC_end hp (by omega)]) | (refine bool_eq ?_; rw [hasC_at hp hyi]; symm; rw [decide_eq_true_eq]; exact cmpI_zero.2 (by simp_all)) | (refine bool_eq ?_; rw [hasC_at hp hyi]; symm; rw [decide_eq_false_iff_not]; intro h0; have := cmpI_zero.1 h0; simp_all)
   ·
    refine Ch.ym h4 rfl rfl rfl rfl rfl rfl rfl ?_
    refine Ch.ym h4 rfl rfl rfl rfl rfl rfl rfl ?_
    refine Ch.y h4 rfl rfl rfl rfl rfl (okp_indexSl rfl Try.underlying26 sz3 ⟨_, rfl, andIs_is _ _⟩ (vl rfl) (by omega) (by omega)) ?_
    refine Ch.y h4 rfl rfl rfl rfl rfl (ok_rd 0 rfl (rd_load1 rfl one3 (vl rfl) (cell1_at (f := fun t : Int => [int t]) (fun _ => rfl) (i := ((i : Nat) : Int)) (by rw [Int.toNat_natCast]; exact hyi) rfl))) ?_
    refine Ch.y h4 rfl rfl rfl rfl rfl (ok_call rfl (w_SisNaNi) ⟨ke rfl, trivial⟩) ?_
    refine Ch.ym h4 rfl rfl rfl rfl rfl rfl rfl ?_
    refine Ch.cs 48 rfl (fun h5 q5 => ?_) (fun h5 q5 => ?_)
    ·
     exact absurd h5 (by decide)
    ·
     refine Ch.nt h5 rfl rfl rfl rfl rfl ?_
     refine Ch.nt h5 rfl rfl rfl rfl rfl ?_
     refine Ch.y h4 rfl rfl rfl rfl rfl (ok_pick_f rfl (vl rfl) h5 (vl rfl)) ?_
     refine Ch.y h3 rfl rfl rfl rfl rfl (ok_pick_f rfl (vl rfl) h4 (vl rfl)) ?_
     refine Ch.oo rfl rfl rfl (ok_pick_t rfl (vl rfl) h3 (vl rfl)) ?_
     refine Ch.as rfl rfl rfl rfl rfl ?_
     refine Ch.as rfl rfl rfl rfl rfl ?_
     refine Ch.nil (Fin.go ?_)
     refine Tr.w2 4 5 rfl rfl ?_
     refine Tr.ret ?_
     refine Fin.retM2 rfl rfl ?_ rfl ?_
     · exact int_eq (by rw [hp])
     · first | (refine bool_eq ?_; rw [hasC_end hp (by omega)]) | (refine bool_eq ?_; rw [hasC_at hp hyi]; symm; rw [decide_eq_true_eq]; exact cmpI_zero.2 (by simp_all)) | (refine bool_eq ?_; rw [hasC_at hp hyi]; symm; rw [decide_eq_false_iff_not]; intro h0; have := cmpI_zero.1 h0; simp_all)
  ·
   iterate 7 refine Ch.nt h3 rfl rfl rfl rfl rfl ?_
   iterate 9 refine Ch.u rfl rfl rfl rfl rfl ?_
   refine Ch.nt h3 rfl rfl rfl rfl rfl ?_
   refine Ch.oo rfl rfl rfl (ok_pick_f rfl (vl rfl) h3 (vl rfl)) ?_
   refine Ch.as rfl rfl rfl rfl rfl ?_
   refine Ch.as rfl rfl rfl rfl rfl ?_
   refine Ch.nil (Fin.go ?_)
   refine Tr.w2 4 5 rfl rfl ?_
   refine Tr.ret ?_
   refine Fin.retM2 rfl rfl ?_ rfl ?_
   · exact int_eq (by rw [hp])
   · first | (refine bool_eq ?_; rw [hasC_end hp (by omega)]) | (refine bool_eq ?_; rw [hasC_at hp hyi]; symm; rw [decide_eq_true_eq]; exact cmpI_zero.2 (by simp_all)) | (refine bool_eq ?_; rw [hasC_at hp hyi]; symm; rw [decide_eq_false_iff_not]; intro h0; have := cmpI_zero.1 h0; simp_all)
theorem e_BSBi : Entry Try.prog 50 := ⟨_, Try.func50, rfl, rfl⟩
set_option maxRecDepth 20000 in
theorem w_BSNi {x : Int}  : Fun Try.prog 50 [is (.slice none 0 0), int x] (tup [int 0, bool false]) := by
 refine Fun.of Try.func50 rfl rfl (by exact Nat.le_of_ble_eq_true rfl) fun M0 w0 => ?_
 refine Tr.seq (Tr.reg0 ?_)
 refine Ch.as rfl rfl rfl rfl rfl ?_
 refine Ch.as rfl rfl rfl rfl rfl ?_
 refine Ch.nil (Fin.go (Tr.seq (Tr.reg0 ?_)))
 refine Ch.mv rfl rfl rfl rfl rfl ?_
 refine Ch.oo rfl rfl rfl (ok_lennil rfl Try.underlying26 (vl rfl)) ?_
 refine Ch.as rfl rfl rfl rfl rfl ?_
 refine Ch.nil (Fin.go (Tr.seq (Tr.reg0 ?_)))
 refine Ch.mv rfl rfl rfl rfl rfl ?_
 refine Ch.as rfl rfl rfl rfl rfl ?_
 refine Ch.as rfl rfl rfl rfl rfl ?_
 refine Ch.nil (Fin.go (Tr.seq (Tr.block ?_)))
 refine Tr.loopw [(0, _), (1, _), (6, _)] ⟨ke rfl, ke rfl, ke rfl, trivial⟩ (fun (u : Unit) => [(7, int 0), (8, int 0)]) (fun (u : Unit) => True) (fun (u : Unit) => 0) () (trivial) ⟨ke rfl, ke rfl, trivial⟩ ?_
 rintro u _
 refine Tr.seq (Tr.seq (Tr.reg0 ?_))
 refine Ch.mv rfl rfl rfl rfl rfl ?_
 refine Ch.mv rfl rfl rfl rfl rfl ?_
 refine Ch.oo rfl rfl rfl (ok_int rfl (vl rfl) (vl rfl) rfl) ?_
 refine Ch.nil (Fin.go ?_)
 refine Tr.cn rfl (fun h1 q1 => ?_) (fun h1 q1 => ?_)
 ·
  exact absurd h1 (by decide)
 ·
  have := h1
  refine Tr.exit ?_
  refine Fin.then_exit ?_
  refine Fin.then_exit ?_
  refine Fin.block_here ?_
  refine Fin.go (Tr.seq (Tr.reg0 ?_))
  iterate 3 refine Ch.mv rfl rfl rfl rfl rfl ?_
  refine Ch.oo rfl rfl rfl (ok_int rfl (vl rfl) (vl rfl) rfl) ?_
  refine Ch.mv rfl rfl rfl rfl rfl ?_
  refine Ch.cs 35 rfl (fun h2 q2 => ?_) (fun h2 q2 => ?_)
  ·
   exact absurd h2 (by decide)
  ·
   iterate 7 refine Ch.nt h2 rfl rfl rfl rfl rfl ?_
   iterate 9 refine Ch.u rfl rfl rfl rfl rfl ?_
   refine Ch.nt h2 rfl rfl rfl rfl rfl ?_
   refine Ch.oo rfl rfl rfl (ok_pick_f rfl (vl rfl) h2 (vl rfl)) ?_
   refine Ch.as rfl rfl rfl rfl rfl ?_
   refine Ch.as rfl rfl rfl rfl rfl ?_
   refine Ch.nil (Fin.go ?_)
   refine Tr.w2 4 5 rfl rfl ?_
   refine Tr.ret ?_
   refine Fin.ret2 rfl (OutW.bse _ _) rfl ?_ rfl ?_
   · first | exact Pr.le_refl _ | (refine int_eq ?_; simp_all; done) | (refine bool_eq ?_; simp_all; done) | (refine bool_eq ?_; simp_all; omega) | (refine int_eq ?_; omega)
   · first | exact Pr.le_refl _ | (refine int_eq ?_; simp_all; done) | (refine bool_eq ?_; simp_all; done) | (refine bool_eq ?_; simp_all; omega) | (refine int_eq ?_; omega)
theorem w_BSi {l : List (Int)} {x : Int} {v : Value} {p : Pr} (hs : AscC cmpI l) (hl : l.length ≤ 1000000) : FunM Try.prog 50 [andIs v p, int x] (tup [int ((posC cmpI l x : Nat) : Int), bool (hasC cmpI l x)]) (ownRes 3 1 (l.map (fun t : Int => [int t])) v) (fun _ => ownRes 3 1 (l.map (fun t : Int => [int t])) v) := by
  refine FunM.own_read e_BSBi (fun h0 _ => ?_) (fun b cap sp _ hc hm hq => ?_)
  · have hl0 : l = [] := by simpa using h0
    subst hl0; exact w_BSNi
  · rw [List.length_map]
    rw [List.length_map] at hc
    exact w_BSBi hs hl hc

set_option maxRecDepth 20000 in
set_option maxHeartbeats 1000000 in
theorem w_InsBi {l : List (Int)} {x : Int} {b0 cap i : Nat} {sp : List Value} (hi : i ≤ l.length) (hl : l.length ≤ 1000000) (hc : l.length ≤ cap) (hm : cap ≤ maxLen) (hq : sp.length = cap - l.length) : FunM Try.prog 51 [andIs (.slice (some ⟨b0, 0, none⟩) l.length cap) (lens l.length), int ((i : Nat) : Int), slice 1 [[int x]]] (lens (l.length + 1)) (cellsRes true b0 3 ((l.map (fun t : Int => [int t])).flatten ++ sp.map is)) (fun v => ownRes 3 1 ((l.take i ++ [x] ++ l.drop i).map (fun t : Int => [int t])) v) := by
 refine FunM.of Try.func51 rfl rfl (by exact Nat.le_of_ble_eq_true rfl) fun M0 w0 S rs M1 w1 => ?_
 have hv2 : ([[int x]] : List (List Pr)).flatten.length = 1 := rfl
 have hv1 : ([[int x]] : List (List Pr)).length = 1 := rfl
 have hAl : ((l.map (fun t : Int => [int t])).flatten).length = l.length := by rw [flat_len (sz := 1) (map_rows fun _ => rfl), List.length_map]; omega
 have e1 : (((i : Nat) : Int) + (1 : Int)).toNat = i + 1 := by omega
 have e2 : ((i : Nat) : Int).toNat = i := by omega
 refine Tr.seq (Tr.reg0 ?_)
 refine Ch.as rfl rfl rfl rfl rfl ?_
 refine Ch.nil (Fin.go (Tr.seq (Tr.reg0 ?_)))
 refine Ch.mv rfl rfl rfl rfl rfl ?_
 refine Ch.mv rfl rfl rfl rfl rfl ?_
 refine Ch.oo rfl rfl rfl (okb_sliceAny rfl Try.underlying26 sz3 ⟨_, rfl, andIs_is _ _⟩ (vl rfl) (by omega) (by omega) (by omega)) ?_
 refine Ch.nil (Fin.go (Tr.seq (Tr.reg0 ?_)))
 refine Ch.mv rfl rfl rfl rfl rfl ?_
 first
  | refine Ch.oo rfl rfl rfl (ok_lenm rfl Try.underlying26 (vl rfl)) ?_
  | refine Ch.oo rfl rfl rfl (ok_len rfl Try.underlying26 (vl rfl)) ?_
 refine Ch.as rfl rfl rfl rfl rfl ?_
 refine Ch.nil (Fin.go (Tr.seq (Tr.seq (Tr.reg0 ?_))))
 refine Ch.mv rfl rfl rfl rfl rfl ?_
 refine Ch.oo rfl rfl rfl (ok_int rfl (vl rfl) (vl rfl) rfl) ?_
 refine Ch.nil (Fin.go ?_)
 refine Tr.cn rfl (fun h1 q1 => ?_) (fun h1 q1 => ?_)
 ·
  simp at h1
 ·
  refine Tr.skip (Fin.go (Tr.seq (Tr.reg0 ?_)))
  refine Ch.mv rfl rfl rfl rfl rfl ?_
  refine Ch.oo rfl rfl rfl (okb_len rfl Try.underlying26 ⟨_, rfl, andIs_is _ _⟩) ?_
  refine Ch.as rfl rfl rfl rfl rfl ?_
  refine Ch.nil (Fin.go (Tr.seq (Tr.seq (Tr.reg0 ?_))))
  refine Ch.mv rfl rfl rfl rfl rfl ?_
  refine Ch.mv rfl rfl rfl rfl rfl ?_
  refine Ch.oo rfl rfl rfl (ok_int rfl (vl rfl) (vl rfl) rfl) ?_
  refine Ch.nil (Fin.go ?_)
  refine Tr.w6 0 1 2 7 8 22 rfl rfl rfl rfl rfl rfl ?_
  refine Tr.cn rfl (fun h2 q2 => ?_) (fun h2 q2 => ?_)
  ·
   refine Tr.seq ?_
   refine Tr.closeG (sz := 1) 0 rfl (rows := l.map (fun t : Int => [int t])) (sp := sp) rfl (by simp) hc hm (by omega) ?_
   refine Tr.regT ?_
   refine TO.mv rfl rfl rfl rfl rfl ?_
   refine TO.mv rfl rfl rfl rfl rfl ?_
   refine TO.efs 0 rfl rfl (by decide) (ef_appmut rfl rfl (by decide) rfl Try.underlying26 sz3 by3 z3 rfl (by decide) (by decide) (vl rfl) (vl rfl) (map_rows fun _ => rfl) (Nat.zero_lt_succ _) (by simp only [List.length_map, List.length_cons, List.length_nil]; unfold maxLen; omega) (by simp only [List.length_map, List.length_cons, List.length_nil]; omega)) (fun v1 => ?_)
   refine TO.as rfl rfl rfl rfl rfl ?_
   refine TO.nil (Fin.go (Tr.ret ?_))
   refine Fin.then_ret ?_
   refine Fin.retM1 rfl rfl ?_ (by rintro _ _ _ ⟨rfl, _⟩; rw [show i = l.length by omega, List.take_length, List.drop_length, List.append_nil, List.map_append]; rfl)
   · exact Pr.le_trans (andIs_le _ _) (Pr.le_of_eq (by simp))
  ·
   refine Tr.skip (Fin.go (Tr.seq (Tr.seq (Tr.reg0 ?_))))
   refine Ch.mv rfl rfl rfl rfl rfl ?_
   refine Ch.mv rfl rfl rfl rfl rfl ?_
   first
    | (refine Ch.oo rfl rfl rfl (ok_add rfl (vl rfl) (vl rfl) ?hin) ?_; case hin => unfold InI; omega)
    | refine Ch.oo rfl rfl rfl (ok_int rfl (vl rfl) (vl rfl) rfl) ?_
   refine Ch.mv rfl rfl rfl rfl rfl ?_
   refine Ch.oo rfl rfl rfl (okb_cap rfl Try.underlying26 ⟨_, rfl, andIs_is _ _⟩) ?_
   refine Ch.oo rfl rfl rfl (ok_int rfl (vl rfl) (vl rfl) rfl) ?_
   refine Ch.nil (Fin.go ?_)
   refine Tr.cn rfl (fun h3 q3 => ?_) (fun h3 q3 => ?_)
   ·
    refine Tr.seq (Tr.regT ?_)
    refine TO.mv rfl rfl rfl rfl rfl ?_
    refine TO.mv rfl rfl rfl rfl rfl ?_
    refine TO.oo rfl rfl rfl (okb_sliceTo rfl Try.underlying26 sz3 ⟨_, rfl, andIs_is _ _⟩ (vl rfl) (by omega) (by omega) (by omega) (by omega)) ?_
    refine TO.mv rfl rfl rfl rfl rfl ?_
    refine TO.mv rfl rfl rfl rfl rfl ?_
    first
     | (refine TO.oo rfl rfl rfl (ok_add rfl (vl rfl) (vl rfl) ?hin) ?_; case hin => unfold InI; omega)
     | refine TO.oo rfl rfl rfl (ok_int rfl (vl rfl) (vl rfl) rfl) ?_
    refine TO.mv rfl rfl rfl rfl rfl ?_
    first
     | (refine TO.oo rfl rfl rfl (ok_sub rfl (vl rfl) (vl rfl) ?hin) ?_; case hin => unfold InI; omega)
     | refine TO.oo rfl rfl rfl (ok_int rfl (vl rfl) (vl rfl) rfl) ?_
    refine TO.pad ?_
    refine TO.appzs 0 1 rfl rfl rfl rfl (by decide) rfl Try.underlying26 Try.underlying3 sz3 by3 z3 rfl (by decide) (by decide) (vl rfl) (vl rfl) (i := i) (k := l.length + 1 - i) (by omega) (by simp only [List.length_append, List.length_take, List.length_drop, List.length_map, hAl, hv1, hv2, Nat.mul_one]; omega) (by omega) (by omega) (by unfold maxLen; omega) (by omega) (fun b1 cap1 sp1 hg1 hm1 hs1 => ?_)
    refine TO.as rfl rfl rfl rfl rfl ?_
    refine TO.nil (Fin.go ?_)
    refine Tr.w5 0 1 2 7 9 rfl rfl rfl rfl rfl ?_
    refine Tr.seq ?_
    have hsz : sp1.length = cap1 - i := by have := hs1; rw [List.length_take, List.length_append, hAl, Nat.mul_one, Nat.mul_one] at this; omega
    refine Tr.frzS (sz := 1) (l.map (fun t : Int => [int t])) 1 0 rfl rfl (Pr.le_trans (andIs_is _ _) (Pr.le_of_eq (by simp))) (map_rows fun _ => rfl) (by rw [List.length_map]; exact hc) hm (by rw [List.length_map, List.length_map]; omega) ?_
    refine Tr.regT ?_
    refine TO.mv rfl rfl rfl rfl rfl ?_
    refine TO.mv rfl rfl rfl rfl rfl ?_
    refine TO.oo rfl rfl rfl (okb_sliceFrom rfl Try.underlying26 sz3 (vl rfl) (vl rfl) (by omega) (by omega) (by omega)) ?_
    refine TO.mv rfl rfl rfl rfl rfl ?_
    refine TO.efc 0 rfl rfl (by decide) (ef_copyS rfl rfl rfl Try.underlying26 sz3 (by decide) (vl rfl) (vl rfl) (by omega) (by omega) (by simp only [List.length_append, List.length_take, List.length_drop, List.length_map, hAl, hv1, hv2, Nat.mul_one]; omega) rfl) ?_
    refine TO.nil (Fin.go (Tr.seq ?_))
    refine Tr.regX mixed [none, none, none, none, none, none, none, none, some (0, 0, true, 0)] (by kernel_rfl) ?_
    iterate 3 refine Cx.mv rfl rfl rfl rfl rfl ?_
    first
     | (refine Cx.oo rfl rfl rfl (fun _ => ok_add rfl (vl rfl) (vl rfl) ?hin) ?_; case hin => unfold InI; omega)
     | refine Cx.oo rfl rfl rfl (fun _ => ok_int rfl (vl rfl) (vl rfl) rfl) ?_
    refine Cx.oo rfl rfl rfl (fun _ => okb_sliceFrom rfl Try.underlying26 sz3 (vl rfl) (vl rfl) (by omega) (by omega) (by omega)) ?_
    refine Cx.mv rfl rfl rfl rfl rfl ?_
    refine Cx.mv rfl rfl rfl rfl rfl ?_
    refine Cx.oo rfl rfl rfl (fun _ => ok_sliceFrom rfl Try.underlying26 sz3 ⟨_, rfl, andIs_le _ _⟩ (vl rfl) (by omega) (by first | omega | (simp; omega))) ?_
    refine Cx.ef 0 rfl rfl (by decide) (ef_copyS rfl rfl rfl Try.underlying26 sz3 (by decide) (vl rfl) (vl rfl) (by simp only [List.length_append, List.length_take, List.length_drop, List.length_map, hAl, hv1, hv2, Nat.mul_one]; omega) (by simp only [List.length_append, List.length_take, List.length_drop, List.length_map, hAl, hv1, hv2, Nat.mul_one]; omega) (by simp only [List.length_append, List.length_take, List.length_drop, List.length_map, hAl, hv1, hv2, Nat.mul_one]; omega) rfl) ?_
    refine Cx.nil ⟨rfl, ?_⟩
    refine FinX.done (AllC.cons (AllC.cons (AllC.cons (AllC.map _)))) ?_
    refine Fin.go ?_
    refine Tr.w1 9 rfl ?_
    refine Tr.seq (Tr.reg0 ?_)
    refine Ch.mv rfl rfl rfl rfl rfl ?_
    refine Ch.as rfl rfl rfl rfl rfl ?_
    refine Ch.nil (Fin.go (Tr.ret ?_))
    refine Fin.then_ret ?_
    refine Fin.closeH (sz := 1) 0 rfl (rows := ((l.take i ++ [x] ++ l.drop i).map (fun t : Int => [int t]))) (sp := sp1.drop (l.length + 1 - i)) (m := i + (l.length + 1 - i)) (ins_grown2 (i := i) (Z := sp1.map is) (n := l.length) hAl (by omega) (by rw [List.length_map]; omega) (by omega) (by omega) (by omega) (by omega) (by rw [List.length_drop, List.length_map]; omega) rfl (by rw [← List.map_drop, flat_drop1 (f := fun t : Int => [int t]) (fun _ => rfl), e2]) (by rw [List.map_drop, ← flat_ins (f := fun t : Int => [int t]) (l := l) (i := i) (x := x) (fun _ => rfl) rfl])) (by simp only [List.length_map, List.length_append, List.length_take, List.length_drop, List.length_cons, List.length_nil]; omega) (by omega) hm1 (by rw [List.length_drop]; omega) ?_
    refine Fin.drop 1 ?_
    refine Fin.retM1 rfl rfl ?_ (by rintro _ _ _ rfl; rfl)
    · rintro _ _ _ rfl; exact ⟨_, _, by first | rfl | (congr 1; done) | (congr 1; omega)⟩
   ·
    refine Tr.skip (Fin.go (Tr.seq (Tr.reg0 ?_)))
    iterate 3 refine Ch.mv rfl rfl rfl rfl rfl ?_
    first
     | (refine Ch.oo rfl rfl rfl (ok_add rfl (vl rfl) (vl rfl) ?hin) ?_; case hin => unfold InI; omega)
     | refine Ch.oo rfl rfl rfl (ok_int rfl (vl rfl) (vl rfl) rfl) ?_
    refine Ch.oo rfl rfl rfl (okb_sliceCap rfl Try.underlying26 sz3 ⟨_, rfl, andIs_is _ _⟩ (vl rfl) (by omega) (by omega) (by omega)) ?_
    refine Ch.as rfl rfl rfl rfl rfl ?_
    refine Ch.nil (Fin.go ?_)
    refine Tr.w5 0 1 2 7 8 rfl rfl rfl rfl rfl ?_
    refine Tr.seq (Tr.seq (Tr.regT ?_))
    iterate 4 refine TO.mv rfl rfl rfl rfl rfl ?_
    first
     | (refine TO.oo rfl rfl rfl (ok_add rfl (vl rfl) (vl rfl) ?hin) ?_; case hin => unfold InI; omega)
     | refine TO.oo rfl rfl rfl (ok_int rfl (vl rfl) (vl rfl) rfl) ?_
    refine TO.oo rfl rfl rfl (okb_sliceFrom rfl Try.underlying26 sz3 (vl rfl) (vl rfl) (by omega) (by omega) (by omega)) ?_
    refine TO.rd 0 rfl rfl rfl (by decide) (rd_overlaps (tR := 4) rfl Try.func89 (by kernel_rfl) (by kernel_rfl) (by kernel_rfl) (by kernel_rfl) Try.underlying26 sz3 (by decide) (vl rfl) (by exact Nat.zero_lt_succ _) (vl rfl) (by simp only [List.length_append, List.length_take, List.length_drop, List.length_map, hAl, hv1, hv2, Nat.mul_one]; omega)) ?_
    refine TO.oo rfl rfl rfl (ok_not rfl (vl rfl)) ?_
    refine TO.nil (Fin.go ?_)
    refine Tr.cn rfl (fun h4 q4 => ?_) (fun h4 q4 => ?_)
    ·
     refine Tr.seq ?_
     refine Tr.regX mixed [none, none, none, none, none, none, none, none, some (0, 0, true, 0)] (by kernel_rfl) ?_
     iterate 3 refine Cx.mv rfl rfl rfl rfl rfl ?_
     first
      | (refine Cx.oo rfl rfl rfl (fun _ => ok_add rfl (vl rfl) (vl rfl) ?hin) ?_; case hin => unfold InI; omega)
      | refine Cx.oo rfl rfl rfl (fun _ => ok_int rfl (vl rfl) (vl rfl) rfl) ?_
     refine Cx.oo rfl rfl rfl (fun _ => okb_sliceFrom rfl Try.underlying26 sz3 (vl rfl) (vl rfl) (by omega) (by omega) (by omega)) ?_
     refine Cx.mv rfl rfl rfl rfl rfl ?_
     refine Cx.mv rfl rfl rfl rfl rfl ?_
     refine Cx.oo rfl rfl rfl (fun _ => okb_sliceFrom rfl Try.underlying26 sz3 (vl rfl) (vl rfl) (by omega) (by omega) (by omega)) ?_
     refine Cx.ef 0 rfl rfl (by decide) (ef_copyB (m := l.length - i) rfl rfl rfl Try.underlying26 sz3 (vl rfl) (vl rfl) (by show _ = min _ _; omega) (by simp only [List.length_append, List.length_take, List.length_drop, List.length_map, hAl, hv1, hv2, Nat.mul_one]; omega) (by simp only [List.length_append, List.length_take, List.length_drop, List.length_map, hAl, hv1, hv2, Nat.mul_one]; omega) rfl) ?_
     refine Cx.nil ⟨rfl, ?_⟩
     refine FinX.done (AllC.cons (AllC.cons (AllC.map _))) ?_
     refine Fin.go ?_
     refine Tr.w3 0 1 2 rfl rfl rfl ?_
     refine Tr.seq (Tr.regT ?_)
     refine TO.mv rfl rfl rfl rfl rfl ?_
     refine TO.mv rfl rfl rfl rfl rfl ?_
     refine TO.oo rfl rfl rfl (okb_sliceFrom rfl Try.underlying26 sz3 (vl rfl) (vl rfl) (by omega) (by omega) (by omega)) ?_
     refine TO.mv rfl rfl rfl rfl rfl ?_
     refine TO.efc 0 rfl rfl (by decide) (ef_copyS rfl rfl rfl Try.underlying26 sz3 (by decide) (vl rfl) (vl rfl) (by omega) (by omega) (by simp only [List.length_append, List.length_take, List.length_drop, List.length_map, hAl, hv1, hv2, Nat.mul_one]; omega) rfl) ?_
     refine TO.nil (Fin.go (Tr.seq (Tr.reg0 ?_)))
     refine Ch.mv rfl rfl rfl rfl rfl ?_
     refine Ch.as rfl rfl rfl rfl rfl ?_
     refine Ch.nil (Fin.go (Tr.ret ?_))
     refine Fin.then_ret ?_
     refine Fin.closeH (sz := 1) 0 rfl (rows := ((l.take i ++ [x] ++ l.drop i).map (fun t : Int => [int t]))) (sp := sp.drop 1) (m := l.length + 1) (ins_place2 (i := i) (S := sp.map is) (n := l.length) hAl (by omega) (by rw [List.length_map]; omega) (by omega) (by omega) (by omega) (by omega) (by omega) (by omega) rfl (by rw [List.map_drop, ← flat_ins (f := fun t : Int => [int t]) (l := l) (i := i) (x := x) (fun _ => rfl) rfl])) (by simp only [List.length_map, List.length_append, List.length_take, List.length_drop, List.length_cons, List.length_nil]; omega) (by omega) hm (by rw [List.length_drop]; omega) ?_
     refine Fin.retM1 rfl rfl ?_ (by rintro _ _ _ rfl; first | rfl | (congr 2; done) | (congr 2; omega))
     · rintro _ _ _ rfl; exact ⟨_, _, by first | rfl | (congr 1; done) | (congr 1; omega)⟩
    ·
     exact absurd h4 (by decide)
theorem e_InsBi : Entry Try.prog 51 := ⟨_, Try.func51, rfl, rfl⟩
set_option maxRecDepth 20000 in
theorem w_InsNi {x : Int}  : FunM Try.prog 51 [is (.slice none 0 0), int ((0 : Nat) : Int), slice 1 [[int x]]] (lens 1) (noRes) (fun v => mutRes 3 1 [[int x]] v) := by
 refine FunM.of Try.func51 rfl rfl (by exact Nat.le_of_ble_eq_true rfl) fun M0 w0 S rs M1 w1 => ?_
 have hv1 : ([[int x]] : List (List Pr)).length = 1 := rfl
 refine Tr.seq (Tr.reg0 ?_)
 refine Ch.as rfl rfl rfl rfl rfl ?_
 refine Ch.nil (Fin.go (Tr.seq (Tr.reg0 ?_)))
 refine Ch.mv rfl rfl rfl rfl rfl ?_
 refine Ch.mv rfl rfl rfl rfl rfl ?_
 refine Ch.oo rfl rfl rfl (ok_sliceFrom rfl Try.underlying26 sz3 ⟨_, rfl, nil_slice _⟩ (vl rfl) (by omega) (by first | omega | (simp; omega))) ?_
 refine Ch.nil (Fin.go (Tr.seq (Tr.reg0 ?_)))
 refine Ch.mv rfl rfl rfl rfl rfl ?_
 first
  | refine Ch.oo rfl rfl rfl (ok_lenm rfl Try.underlying26 (vl rfl)) ?_
  | refine Ch.oo rfl rfl rfl (ok_len rfl Try.underlying26 (vl rfl)) ?_
 refine Ch.as rfl rfl rfl rfl rfl ?_
 refine Ch.nil (Fin.go (Tr.seq (Tr.seq (Tr.reg0 ?_))))
 refine Ch.mv rfl rfl rfl rfl rfl ?_
 refine Ch.oo rfl rfl rfl (ok_int rfl (vl rfl) (vl rfl) rfl) ?_
 refine Ch.nil (Fin.go ?_)
 refine Tr.cn rfl (fun h1 q1 => ?_) (fun h1 q1 => ?_)
 ·
  simp at h1
 ·
  refine Tr.skip (Fin.go (Tr.seq (Tr.reg0 ?_)))
  refine Ch.mv rfl rfl rfl rfl rfl ?_
  refine Ch.oo rfl rfl rfl (ok_lennil rfl Try.underlying26 (vl rfl)) ?_
  refine Ch.as rfl rfl rfl rfl rfl ?_
  refine Ch.nil (Fin.go (Tr.seq (Tr.seq (Tr.reg0 ?_))))
  refine Ch.mv rfl rfl rfl rfl rfl ?_
  refine Ch.mv rfl rfl rfl rfl rfl ?_
  refine Ch.oo rfl rfl rfl (ok_int rfl (vl rfl) (vl rfl) rfl) ?_
  refine Ch.nil (Fin.go ?_)
  refine Tr.w6 0 1 2 7 8 22 rfl rfl rfl rfl rfl rfl ?_
  refine Tr.cn rfl (fun h2 q2 => ?_) (fun h2 q2 => ?_)
  ·
   refine Tr.seq (Tr.regT ?_)
   refine TO.mv rfl rfl rfl rfl rfl ?_
   refine TO.mv rfl rfl rfl rfl rfl ?_
   refine TO.pad ?_
   refine TO.efs 0 rfl rfl (by decide) (ef_appvoid rfl rfl (by decide) rfl Try.underlying26 sz3 by3 z3 rfl (by decide) (by decide) ⟨_, rfl, nil_full 1⟩ (vl rfl) (by simp) (by simp; unfold maxLen; omega) (by simp)) (fun v1 => ?_)
   refine TO.as rfl rfl rfl rfl rfl ?_
   refine TO.nil (Fin.go (Tr.ret ?_))
   refine Fin.then_ret ?_
   refine Fin.drop 1 ?_
   refine Fin.retM1 rfl rfl ?_ (by intro _ _ _ h; rw [h.1])
   · exact Pr.le_trans (andIs_le _ _) (Pr.le_refl _)
  ·
   exact absurd h2 (by decide)
theorem w_Insi {l : List (Int)} {x : Int} {v : Value} {p : Pr} {i : Nat} (hi : i ≤ l.length) (hl : l.length ≤ 1000000) : FunM Try.prog 51 [andIs v p, int ((i : Nat) : Int), slice 1 [[int x]]] (lens (l.length + 1)) (ownRes 3 1 (l.map (fun t : Int => [int t])) v) (fun v => ownRes 3 1 ((l.take i ++ [x] ++ l.drop i).map (fun t : Int => [int t])) v) := by
  refine FunM.own_cases e_InsBi (fun h0 _ => ?_) (fun b cap sp _ hc hm hq => ?_)
  · have hl0 : l = [] := by simpa using h0
    subst hl0
    have hi0 : i = 0 := by simpa using hi
    subst hi0
    exact FunM.own_of_mut w_InsNi
  · rw [List.length_map] at hc hq ⊢
    exact w_InsBi hi hl hc hm (by omega)
set_option maxRecDepth 20000 in
theorem w_insi {l : List (Int)} {x : Int} {v : Value} (hs : AscC cmpI l) (hl : l.length ≤ 1000000) : FunM Try.prog 24 [andIs v (lens l.length), int x] (lens (insC cmpI l x).length) (ownRes 3 1 (l.map (fun t : Int => [int t])) v) (fun v => ownRes 3 1 ((insC cmpI l x).map (fun t : Int => [int t])) v) := by
 refine FunM.of Try.func24 rfl rfl (by exact Nat.le_of_ble_eq_true rfl) fun M0 w0 S rs M1 w1 => ?_
 refine Tr.seq (Tr.reg0 ?_)
 refine Ch.as rfl rfl rfl rfl rfl ?_
 refine Ch.nil (Fin.go (Tr.seq (Tr.regT ?_)))
 refine TO.mv rfl rfl rfl rfl rfl ?_
 refine TO.mv rfl rfl rfl rfl rfl ?_
 refine TO.efc 0 rfl rfl (by decide) (ef_callc rfl rfl (by decide) rfl (w_BSi (l := l) (x := x) hs hl) ⟨ke rfl, ke rfl, trivial⟩) ?_
 refine TO.mv rfl rfl rfl rfl rfl ?_
 refine TO.oo rfl rfl rfl (ok_extract rfl (vl rfl) rfl) ?_
 refine TO.oo rfl rfl rfl (ok_extract rfl (vl rfl) rfl) ?_
 refine TO.as rfl rfl rfl rfl rfl ?_
 refine TO.as rfl rfl rfl rfl rfl ?_
 refine TO.nil (Fin.go (Tr.seq (Tr.seq (Tr.reg0 ?_))))
 refine Ch.mv rfl rfl rfl rfl rfl ?_
 refine Ch.nil (Fin.go ?_)
 refine Tr.cn rfl (fun h1 q1 => ?_) (fun h1 q1 => ?_)
 ·
  have hE := insC_has (c := cmpI) (l := l) (x := x) h1
  refine Tr.seq (Tr.reg0 ?_)
  refine Ch.mv rfl rfl rfl rfl rfl ?_
  refine Ch.as rfl rfl rfl rfl rfl ?_
  refine Ch.nil (Fin.go (Tr.ret ?_))
  refine Fin.then_ret ?_
  refine Fin.retM1 rfl rfl ?_ (by rintro _ _ _ ⟨rfl, _⟩; rw [hE])
  · rw [hE]; exact andIs_le _ _
 ·
  have hE := insC_not (c := cmpI) (l := l) (x := x) h1
  have hp := posC_le cmpI l x
  refine Tr.skip (Fin.go (Tr.seq (Tr.regT ?_)))
  iterate 3 refine TO.mv rfl rfl rfl rfl rfl ?_
  refine TO.oo rfl rfl rfl (ok_buildSlice (xs := [.tmp 17]) (rows := [[_]]) rfl rfl Try.underlying26 sz3 z3 rfl (by decide) ⟨⟨(by exact rfl), (VL.le (vl rfl) (one_cellsP _))⟩, trivial⟩ (by decide)) ?_
  refine TO.efs 0 rfl rfl (by decide) (ef_call rfl rfl (by decide) rfl (w_Insi (l := l) (x := x) (i := posC cmpI l x) (posC_le _ _ _) hl) ⟨ke rfl, ke rfl, ⟨_, rfl, full_le _ _⟩, trivial⟩) (fun v1 => ?_)
  refine TO.as rfl rfl rfl rfl rfl ?_
  refine TO.nil (Fin.go ?_)
  refine Tr.w1 4 rfl ?_
  refine Tr.ret ?_
  refine Fin.retM1 rfl rfl ?_ (by rintro _ _ _ ⟨rfl, _⟩; rw [hE])
  · rw [hE]; exact Pr.le_trans (andIs_le _ _) (Pr.le_of_eq (by congr 1; simp; omega))
end Go.Proofs.Ytgdlhajfajddiaa
namespace Cp
open Go Go.RowKit Go.Great
section
variable {P : Program} {n : Nat} {E : Env} {M0 : Av} {w0 : World} {S : Nat → Prop} {o : Oper}
/-- A block of which one cell hangs on a slot, and then another one on another. -/
def twoF (new : Bool) (b : Nat) (T : TypeId) (off : Nat) (p : Pr) (ps : Value → List Pr) (u : Value) : Res := match u with
  | .tuple t => cellsRes new b T ((ps (t.getD 0 undef)).take off ++ [andIs (t.getD 1 undef) p] ++ (ps (t.getD 0 undef)).drop (off + 1))
  | _ => noRes
theorem ef_storeT {t : TypeId} {x : Operand} {q0 q : Tmp} {j : Nat} {new : Bool} {b off : Nat} {T : TypeId} {ps : Value → List Pr} {p : Pr} [One p] (hg : o.guard = none) (hd : o.dst = none) (ho : o.op = .store t x (.tmp q)) (hx : VL E x (ptr b off)) (hy : E.lookup q = some p)
    (hz : sizeB P t = some 1) (hl : ∀ v, off + 1 ≤ (ps v).length) : OpEf P M0 w0 S n j ⟨.one q0, fun v => cellsRes new b T (ps v)⟩ ⟨.two q0 q, twoF new b T off p ps⟩ o E any := by
  refine ⟨hg, fun M w a rs hsz he hI hj => ?_⟩
  have hj' : rs[j]? = some (SR.at_ a (SR.c (cellsRes new b T (ps (a.tmps.getD q0 undef))))) := hj
  obtain ⟨h1, h2⟩ := ef_storeS (P := P) (M0 := M0) (w0 := w0) (S := S) (n := n) (j := j) (new := new) (T := T) (ps := ps (a.tmps.getD q0 undef)) (b := b) (off := off) hg hd ho hx hy hz (hl _)
  have h3 := h2 M w a rs hsz he hI hj'
  revert h3
  generalize (execOp a.eval o).run P w = r
  have key : ∀ v, SR.at_ (a.put o.dst v) ⟨.one q, fun v => cellsRes new b T ((ps (a.tmps.getD q0 undef)).take off ++ [andIs v p] ++ (ps (a.tmps.getD q0 undef)).drop (off + 1))⟩ = SR.at_ (a.put o.dst v) ⟨.two q0 q, twoF new b T off p ps⟩ := fun v => by rw [hd]; rfl
  intro h3
  cases r with
  | halt x w' => exact h3
  | ok x w' =>
    cases x
    case value v => obtain ⟨M', g1, g2, g3⟩ := h3; exact ⟨M', g1, g2, by rw [← key]; exact g3⟩
    case skip => obtain ⟨M', g1, g2, g3⟩ := h3; exact ⟨M', g1, g2, by rw [← key]; exact g3⟩
    case enter f args =>
      refine Calls.mono h3 ?_
      rintro e w'' ⟨v, M', g0, g1, g2, g3⟩
      exact ⟨v, M', g0, g1, g2, by rw [← key]; exact g3⟩
    all_goals exact h3
/-- Two slots are named: two resources that hang on one each, and one that hangs on both. -/
theorem FinX.open3 {Q : Exit → Act → World → Prop} {rs : List SR} (j1 j2 i s t : Nat) {f g : Value → Res} {new : Bool} {b off : Nat} {T : TypeId} {ps : Value → List Pr} {p q r : Pr} (h1 : rs[j1]? = some ⟨.one s, f⟩) (h2 : rs[j2]? = some ⟨.one t, g⟩) (h3 : rs[i]? = some ⟨.two s t, twoF new b T off r ps⟩) (h12 : j1 ≠ j2) (h13 : j1 ≠ i) (h23 : j2 ≠ i) (hst : s ≠ t) (hs : E.lookup s = some p) (ht : E.lookup t = some q)
    (k : ∀ v u, FinX n M0 w0 S ((t, andIs u q) :: (s, andIs v p) :: E) (((rs.set j1 (SR.c (f v))).set j2 (SR.c (g u))).set i (SR.c (cellsRes new b T ((ps v).take off ++ [andIs u r] ++ (ps v).drop (off + 1))))) Q) : FinX n M0 w0 S E rs Q := by
  rintro a w ⟨M, g1, g2, g3, g4⟩
  refine k (a.tmps.getD s undef) (a.tmps.getD t undef) a w ⟨M, g1, g2, ?_, ?_⟩
  · intro c z hz
    simp only [List.lookup] at hz
    by_cases hct : c = t
    · subst hct; simp only [beq_self_eq_true, Option.some.injEq] at hz; subst hz; exact ⟨rfl, g3 c q ht⟩
    · rw [show (c == t) = false by simpa using hct] at hz
      by_cases hcs : c = s
      · subst hcs; simp only [beq_self_eq_true, Option.some.injEq] at hz; subst hz; exact ⟨rfl, g3 c p hs⟩
      · rw [show (c == s) = false by simpa using hcs] at hz; exact g3 c z hz
  · have e1 := set_at h1 a
    have e2 := set_at (rs := rs.set j1 (SR.c (f (a.tmps.getD s undef)))) (j := j2) (s := t) (f := g) (by rw [List.getElem?_set, if_neg h12]; exact h2) a
    have h3' : ((rs.set j1 (SR.c (f (a.tmps.getD s undef)))).set j2 (SR.c (g (a.tmps.getD t undef))))[i]? = some ⟨.two s t, twoF new b T off r ps⟩ := by
      rw [List.getElem?_set, if_neg h23, List.getElem?_set, if_neg h13]; exact h3
    rw [List.map_set, e2, e1]
    have e3 : (rs.map (·.at_ a)).set i (cellsRes new b T ((ps (a.tmps.getD s undef)).take off ++ [andIs (a.tmps.getD t undef) r] ++ (ps (a.tmps.getD s undef)).drop (off + 1))) = rs.map (·.at_ a) := by
      apply List.ext_getElem?
      intro m
      rw [List.getElem?_set]
      by_cases him : i = m
      · subst him
        rw [if_pos rfl]
        split
        · rw [List.getElem?_map, h3]; rfl
        · rename_i hge
          rw [List.getElem?_eq_none (by omega)]
      · rw [if_neg him]
    exact (congrArg (fun l => HpH M0 w0 S l M w) e3).mpr g4
end
section
variable {P : Program} {n : Nat} {E : Env} {M0 : Av} {w0 : World} {S : Nat → Prop} {rs : List Res} {ε : Type} {res : ε → List Res}
/-- None of a table is turned any more. -/
theorem HpH.frzTab {Φ : ε → Av → World → Prop} {w : World} (hst : ∀ x M M', Ext M w M' w → Φ x M w → Φ x M' w) (h1 : ∀ x rs M, HpH M0 w0 S (res x ++ rs) M w → ∃ M', Ext M w M' w ∧ HpH M0 w0 S rs M' w ∧ Φ x M' w) :
    ∀ (X : List ε) (heads : List Res) (M : Av), HpH M0 w0 S (heads ++ tab res X) M w → ∃ M', Ext M w M' w ∧ HpH M0 w0 S heads M' w ∧ ∀ x ∈ X, Φ x M' w
  | [], heads, M, h => ⟨M, Ext.refl _ _, by simpa [tab] using h, fun x hx => by simp at hx⟩
  | x :: X, heads, M, h => by
    have hp : (heads ++ tab res (x :: X)).Perm (res x ++ (heads ++ tab res X)) := by
      show (heads ++ (res x ++ tab res X)).Perm _
      rw [← List.append_assoc, ← List.append_assoc]
      exact List.perm_append_comm.append_right _
    obtain ⟨M1, g1, g2, g3⟩ := h1 x _ M (HpH.perm hp h)
    obtain ⟨M2, k1, k2, k3⟩ := HpH.frzTab hst h1 X heads M1 g2
    refine ⟨M2, g1.trans k1, k2, fun y hy => ?_⟩
    rcases List.mem_cons.1 hy with rfl | hy
    · exact hst _ _ _ k1 g3
    · exact k3 y hy
theorem St.tabnew {a : Act} {w : World} (heads : List Res) {X : List ε} (x : ε) (hrs : rs = heads ++ tab res X) (h0 : ∀ r ∈ res x, r.blk = none ∧ ∀ M w, r.h M w) (h : St n E (Hp M0 w0 S rs) a w) : St n E (Hp M0 w0 S (heads ++ tab res (X ++ [x]))) a w := by
  subst hrs
  obtain ⟨M, h1, h2, h3, h4⟩ := h
  refine ⟨M, h1, h2, h3, ?_⟩
  have key : ∀ l : List Res, (∀ r ∈ l, r.blk = none ∧ ∀ M w, r.h M w) → ∀ rs, HpH M0 w0 S rs M w → HpH M0 w0 S (l ++ rs) M w := by
    intro l
    induction l with
    | nil => intro _ rs h; exact h
    | cons r l ih => intro hl rs h; exact HpH.add0 (ih (fun r hr => hl r (List.mem_cons_of_mem _ hr)) rs h) (hl r (List.mem_cons_self ..)).1 ((hl r (List.mem_cons_self ..)).2 _ _)
  have := key (res x) h0 _ h4
  refine HpH.perm ?_ this
  rw [tab_snoc, ← List.append_assoc heads]
  exact List.perm_append_comm
theorem Fin.tabnew {Q : Exit → Act → World → Prop} {e : Exit} (heads : List Res) {X : List ε} (x : ε) (hrs : rs = heads ++ tab res X) (h0 : ∀ r ∈ res x, r.blk = none ∧ ∀ M w, r.h M w) (k : Fin n E (Hp M0 w0 S (heads ++ tab res (X ++ [x]))) Q e) : Fin n E (Hp M0 w0 S rs) Q e :=
  Fin.conv (fun _ _ hs => hs.tabnew heads x hrs h0) k
/-- The same cells, said in other words. -/
theorem Tr.eqC {Q : Exit → Act → World → Prop} {c : Code} (j : Nat) {new : Bool} {b : Nat} {T : TypeId} {ps : List Pr} (qs : List Pr) (hi : rs[j]? = some (cellsRes new b T ps)) (h : ps = qs) (k : Tr P n E (Hp M0 w0 S (rs.set j (cellsRes new b T qs))) c Q) : Tr P n E (Hp M0 w0 S rs) c Q := by
  subst h; exact Tr.reC j ps hi (LeL.rfl' ps) k
theorem Fin.eqC {Q : Exit → Act → World → Prop} {e : Exit} (j : Nat) {new : Bool} {b : Nat} {T : TypeId} {ps : List Pr} (qs : List Pr) (hi : rs[j]? = some (cellsRes new b T ps)) (h : ps = qs) (k : Fin n E (Hp M0 w0 S (rs.set j (cellsRes new b T qs))) Q e) : Fin n E (Hp M0 w0 S rs) Q e := by
  subst h; exact Fin.reC j ps hi (LeL.rfl' ps) k
/-- A slice of ours, read by what its cells come to. -/
theorem own_mono {e : TypeId} {sz : Nat} {rows rows' : List (List Pr)} {v : Value} {M : Av} {w : World} (hl : rows.length = rows'.length) (hf : rows.flatten.length = rows'.flatten.length) (h : ∀ vs, HL M w rows.flatten vs → HL M w rows'.flatten vs) (ho : (ownRes e sz rows v).h M w) : (ownRes e sz rows' v).h M w := by
  rcases ho with ⟨h1, h2⟩ | ⟨b, cap, sp, h1, h2, h3, h4, h5, cs, h6, h7, h8⟩
  · refine .inl ⟨?_, h2⟩
    subst h1
    exact List.length_eq_zero_iff.1 hl.symm
  · refine .inr ⟨b, cap, sp, by rw [← hl]; exact h1, by rw [← hl]; exact h2, h3, by rw [← hl]; exact h4, h5, cs, h6, ?_, h8⟩
    have e1 := h7.take rows.flatten.length
    have e2 := h7.drop rows.flatten.length
    rw [List.take_left] at e1
    rw [List.drop_left] at e2
    have := (h _ e1).app e2
    rwa [List.take_append_drop] at this
theorem Tr.frzTab {Q : Exit → Act → World → Prop} {c : Code} {X : List ε} {Φ : ε → Av → World → Prop} {e : TypeId} {sz d : Nat} {f g : ε → List Pr} {v : Value} {p : Pr} (heads : List Res) (hrs : rs = ownRes e sz (X.map f) v :: heads ++ tab res X) (hd : E.lookup d = some (andIs v p)) (hf : ∀ x, (f x).length = sz) (hg : ∀ x, (g x).length = sz)
    (hst : ∀ x M M' w, Ext M w M' w → Φ x M w → Φ x M' w) (h1 : ∀ x rs M w, HpH M0 w0 S (res x ++ rs) M w → ∃ M', Ext M w M' w ∧ HpH M0 w0 S rs M' w ∧ Φ x M' w) (h2 : ∀ x M w vs, Φ x M w → HL M w (f x) vs → HL M w (g x) vs)
    (k : Tr P n ((d, andIs v (slice sz (X.map g))) :: E) (Hp M0 w0 S (appRes e sz v :: heads)) c Q) : Tr P n E (Hp M0 w0 S rs) c Q := by
  subst hrs
  intro a w hs
  obtain ⟨M, k1, k2, k3, k4⟩ := hs
  have k4 : HpH M0 w0 S ((ownRes e sz (X.map f) v :: heads) ++ tab res X) M w := k4
  obtain ⟨M1, g1, g2, g3⟩ := HpH.frzTab (Φ := Φ) (fun x M M' => hst x M M' w) (fun x rs M => h1 x rs M w) X _ M k4
  have hlen : ∀ (f : ε → List Pr), (∀ x, (f x).length = sz) → (X.map f).flatten.length = X.length * sz := fun f hf => by
    rw [flat_len (map_rows hf), List.length_map]
  have hown : (ownRes e sz (X.map g) v).h M1 w := by
    refine own_mono (by simp) (by rw [hlen f hf, hlen g hg]) (fun vs hvs => ?_) (g2.hold _ (List.mem_cons_self ..)).1
    have key : ∀ (Y : List ε) (vs : List Value), (∀ x ∈ Y, Φ x M1 w) → HL M1 w (Y.map f).flatten vs → HL M1 w (Y.map g).flatten vs := by
      intro Y
      induction Y with
      | nil => intro vs _ h; exact h
      | cons y Y ih =>
        intro vs hY h
        rw [List.map_cons, List.flatten_cons] at h ⊢
        have e1 := h.take (f y).length
        have e2 := h.drop (f y).length
        rw [List.take_left] at e1
        rw [List.drop_left] at e2
        have := (h2 y M1 w _ (hY y (List.mem_cons_self ..)) e1).app (ih _ (fun x hx => hY x (List.mem_cons_of_mem _ hx)) e2)
        rwa [List.take_append_drop] at this
    exact key X vs g3 hvs
  have g4 := g2.swap1 (i := 0) (r' := ownRes e sz (X.map g) v) rfl rfl rfl hown
  obtain ⟨M2, j1, j2, j3⟩ := HpH.frzO (j := 0) g4 rfl (map_rows hg)
  refine k a w ⟨M2, k1, k2, fun s q hq => ?_, j2⟩
  have hE : Ext M w M2 w := g1.trans j1
  simp only [List.lookup] at hq
  split at hq
  · rename_i e1
    have : s = d := by simpa using e1
    subst this
    simp only [Option.some.injEq] at hq
    subst hq
    have h9 := (k3 _ _ hd).1
    exact ⟨h9, by rw [h9]; exact j3⟩
  · exact q.st _ _ _ _ _ hE (k3 s q hq)
end
section
variable {P : Program} {n : Nat} {E : Env} {M0 : Av} {w0 : World} {S : Nat → Prop} {o : Oper}
/-- len of a slice of ours. -/
theorem okb_lens {I : Asn} {t e : TypeId} {x : Operand} {m : Nat} (ho : o.op = .call { callee := .builtin .len, args := #[x], argTypes := #[t] }) (ht : P.underlying t = some (.slice e)) (hx : VL E x (lens m)) : OpOK P I o E (int m) :=
  OpOK.same fun M w a he _ => by
    obtain ⟨A, c, h1⟩ := hx.ev he (by simp [ho, Op.operands, Call.operands])
    exact ⟨.int .i64 m, by simp [execOp, ho, resolve, invoke, builtin, Builtin.len_, h1, run_underlying ht, goInt], rfl⟩
theorem rd_lookup0 {κ : Type} [DecidableEq κ] {enc : κ → Value} {T kt et : TypeId} {x y : Operand} {b j : Nat} {es : List (κ × Int)} (k : κ) {q : Pr} (hT : MapT P T kt et enc) (ho : o.op = .lookup T x y false) (hx : VL E x (is (.map (some b)))) (hy : VL E y q) (hk : ∀ M w v, q.h M w v → v = enc k) :
    OpRd P M0 w0 S j (SR.c (mapR enc b es)) o E (int ((look es k).getD 0)) := by
  intro M w a rs he hI hj
  have h1 : a.eval x = _ := hx.ev he (by simp [ho, Op.operands])
  have h2 : a.eval y = enc k := hk _ _ _ (hy.ev he (by simp [ho, Op.operands]))
  have hj' : rs[j]? = some (mapR enc b es) := hj
  obtain ⟨_, hh⟩ := (hI.hold _ (List.mem_of_getElem? hj')).1
  have hrun : (execOp a.eval o).run P w = .ok (.value (.int .i64 ((look es k).getD 0))) w := by
    have hf := find_key hT k w es
    have hg := find_at (fun p : κ × Int => decide (k = p.1)) es
    unfold look
    cases hfi : es.findIdx? fun p => decide (k = p.1) with
    | none =>
      rw [hfi] at hf hg
      rw [← hg]
      simp only [Option.bind_none] at hf
      simp [execOp, ho, h1, h2, Instr.lookup, run_underlying hT.und, MapKept.run_getObj_map hh, hT.chk, hf, hT.zero, Result.andThen]
    | some i =>
      rw [hfi] at hf hg
      rw [← hg]
      have hil : i < es.length := by rw [List.findIdx?_eq_some_iff_getElem] at hfi; exact hfi.1
      simp only [Option.bind_some, List.getElem?_eq_getElem hil, Option.map_some] at hf ⊢
      simp [execOp, ho, h1, h2, Instr.lookup, run_underlying hT.und, MapKept.run_getObj_map hh, hT.chk, hf, Result.andThen]
  rw [hrun]
  exact ⟨rfl, Below.refl _ _⟩

end
end Cp
namespace Go.Proofs.Ytgdlhajfajddiaa
open Go Go.RowKit Cp

/-- An entity and the slices of its fields. -/
structure EntV where
  e : Ent
  vh : Value
  vm : Value
  vf : Value
abbrev rowV (x : EntV) : List Pr := [int x.e.num, andIs x.vh (lens x.e.hosts.length), andIs x.vm (lens x.e.machines.length), andIs x.vf (ints x.e.fnds)]
def resV (x : EntV) : List Res := [ownRes 9 1 (x.e.hosts.map fun t => [str t]) x.vh, ownRes 3 1 (x.e.machines.map fun t => [int t]) x.vm, appRes 3 1 x.vf]
theorem rowV_len (x : EntV) : (rowV x).length = 4 := rfl
def newV (k : Nat) : EntV := ⟨⟨(k : Nat), [], [], []⟩, .slice none 0 0, .slice none 0 0, .slice none 0 0⟩
theorem newV_res (k : Nat) : ∀ r ∈ resV (newV k), r.blk = none ∧ ∀ M w, r.h M w := by
  intro r hr
  unfold resV newV at hr
  simp only [List.mem_cons, List.not_mem_nil, or_false] at hr
  rcases hr with rfl | rfl | rfl
  · exact ⟨rfl, fun M w => .inl ⟨rfl, rfl⟩⟩
  · exact ⟨rfl, fun M w => .inl ⟨rfl, rfl⟩⟩
  · exact ⟨rfl, fun M w a n c hv => by cases hv⟩
theorem newV_row (k : Nat) : Pr.le (full 4 [[int ((k : Nat) : Int), is (.slice none 0 0), is (.slice none 0 0), is (.slice none 0 0)]]) (slice 4 [rowV (newV k)]) :=
  Pr.le_trans (full_le _ _) (slice_le ⟨⟨Pr.le_refl _, lens_nil rfl, lens_nil rfl, own_nil rfl, trivial⟩, trivial⟩)
def PhiV (x : EntV) (M : Av) (w : World) : Prop := (strs x.e.hosts).h M w x.vh ∧ (ints x.e.machines).h M w x.vm
theorem PhiV_st (x : EntV) (M M' : Av) (w : World) (h : Ext M w M' w) (hp : PhiV x M w) : PhiV x M' w := ⟨(strs x.e.hosts).st _ _ _ _ _ h hp.1, (ints x.e.machines).st _ _ _ _ _ h hp.2⟩
theorem PhiV_frz {M0 : Av} {w0 : World} {S : Nat → Prop} (x : EntV) (rs : List Res) (M : Av) (w : World) (h : HpH M0 w0 S (resV x ++ rs) M w) : ∃ M', Ext M w M' w ∧ HpH M0 w0 S rs M' w ∧ PhiV x M' w := by
  obtain ⟨M1, h1, h2, h3⟩ := HpH.frzO (j := 0) h rfl (map_rows fun _ => rfl)
  obtain ⟨M2, h4, h5, h6⟩ := HpH.frzO (j := 1) h2 rfl (map_rows fun _ => rfl)
  exact ⟨M2, h1.trans h4, ((h5.drop1).drop1).drop1, (slice 1 _).st _ _ _ _ _ h4 h3, h6⟩
abbrev rowW (x : EntV) : List Pr := rowE x.e
theorem PhiV_row (x : EntV) (M : Av) (w : World) (vs : List Value) (hp : PhiV x M w) (h : HL M w (rowV x) vs) : HL M w (rowW x) vs := by
  match vs, h with
  | [a, b, c, d], h =>
    obtain ⟨h1, h2, h3, h4, _⟩ := h
    obtain rfl : b = x.vh := h2.1
    obtain rfl : c = x.vm := h3.1
    exact ⟨h1, hp.1, hp.2, h4.2, trivial⟩
/-- Where the map says that each entity is. -/
def atM (l : List Fnd) (gap : Int) : Nat → List (Int × Int)
  | 0 => []
  | k + 1 => if rootS l gap k = k then updM (atM l gap k) ((rootS l gap k : Nat) : Int) ((entsK l (rootS l gap) k).length : Nat) else atM l gap k
theorem atM_yes {l : List Fnd} {gap : Int} {k : Nat} (h : rootS l gap k = k) : atM l gap (k + 1) = updM (atM l gap k) ((rootS l gap k : Nat) : Int) ((entsK l (rootS l gap) k).length : Nat) := if_pos h
theorem atM_no {l : List Fnd} {gap : Int} {k : Nat} (h : ¬ rootS l gap k = k) : atM l gap (k + 1) = atM l gap k := if_neg h
theorem entsK_len (l : List Fnd) (root : Nat → Nat) (n : Nat) : (entsK l root n).length = (rootsK root n).length := by unfold entsK; rw [List.length_map]
theorem rootsK_le (root : Nat → Nat) (n : Nat) : (rootsK root n).length ≤ n := by unfold rootsK; have := List.length_filter_le (fun r => decide (root r = r)) (List.range n); rw [List.length_range] at this; exact this
theorem atM_look {l : List Fnd} {gap : Int} : ∀ (k j r : Nat), (rootsK (rootS l gap) k)[j]? = some r → Cp.look (atM l gap k) ((r : Nat) : Int) = some ((j : Nat) : Int)
  | 0, j, r, h => by simp [rootsK] at h
  | k + 1, j, r, h => by
    rw [rootsK_succ] at h
    by_cases hr : rootS l gap k = k
    · rw [if_pos hr] at h
      rw [atM_yes hr, look_upd, hr]
      rcases Nat.lt_or_ge j (rootsK (rootS l gap) k).length with hj | hj
      · rw [List.getElem?_append_left hj] at h
        have := (rootsK_lt (List.mem_of_getElem? h)).1
        rw [if_neg (by omega)]
        exact atM_look k j r h
      · rw [List.getElem?_append_right hj] at h
        have hjl : j - (rootsK (rootS l gap) k).length = 0 := by
          rcases Nat.eq_zero_or_pos (j - (rootsK (rootS l gap) k).length) with h0 | h0
          · exact h0
          · rw [List.getElem?_eq_none (by simp; omega)] at h; cases h
        rw [hjl] at h
        simp only [List.getElem?_cons_zero, Option.some.injEq] at h
        subst h
        rw [if_pos rfl, entsK_len, show (rootsK (rootS l gap) k).length = j by omega]
    · rw [if_neg hr, List.append_nil] at h
      rw [atM_no hr]
      exact atM_look k j r h
theorem root_in {l : List Fnd} {gap : Int} {k : Nat} (hk : k < l.length) : ∃ i : Nat, (rootsK (rootS l gap) (k + 1))[i]? = some (rootS l gap k) ∧ Cp.look (atM l gap (k + 1)) ((rootS l gap k : Nat) : Int) = some ((i : Nat) : Int) := by
  have hm : rootS l gap k ∈ rootsK (rootS l gap) (k + 1) := by
    unfold rootsK
    rw [List.mem_filter, List.mem_range]
    exact ⟨Nat.lt_succ_of_le (rootS_le l gap k), by simpa using rootS_idem hk⟩
  obtain ⟨i, hi⟩ := List.mem_iff_getElem?.1 hm
  exact ⟨i, hi, atM_look _ _ _ hi⟩
theorem entsK_mid (l : List Fnd) {root : Nat → Nat} (hle : ∀ i, root i ≤ i) (n : Nat) : (entsK l root n ++ if root n = n then [(⟨(n : Nat), [], [], []⟩ : Ent)] else []) = (rootsK root (n + 1)).map fun r => entK l root r n := by
  rw [rootsK_succ, List.map_append]
  unfold entsK
  congr 1
  split
  · rw [List.map_singleton, entK_none hle n (Nat.le_refl _)]
  · rfl
theorem ents_at {l : List Fnd} {gap : Int} {k i : Nat} {X : List EntV} (hX : X.map (·.e) = entsK l (rootS l gap) k ++ if rootS l gap k = k then [(⟨(k : Nat), [], [], []⟩ : Ent)] else []) (hi : (rootsK (rootS l gap) (k + 1))[i]? = some (rootS l gap k)) : ∃ x, X[i]? = some x ∧ x.e = entK l (rootS l gap) (rootS l gap k) k := by
  rw [entsK_mid l (rootS_le l gap)] at hX
  have h1 : (X.map (·.e))[i]? = some (entK l (rootS l gap) (rootS l gap k) k) := by rw [hX, List.getElem?_map, hi]; rfl
  rw [List.getElem?_map, Option.map_eq_some_iff] at h1
  exact h1
theorem ents_next {l : List Fnd} {gap : Int} {k i : Nat} {f : Fnd} {X : List EntV} {x y : EntV} (hf : l[k]? = some f) (hX : X.map (·.e) = entsK l (rootS l gap) k ++ if rootS l gap k = k then [(⟨(k : Nat), [], [], []⟩ : Ent)] else []) (hi : (rootsK (rootS l gap) (k + 1))[i]? = some (rootS l gap k)) (hx : x.e = entK l (rootS l gap) (rootS l gap k) k) (hy : y.e = entAdd x.e f (k : Nat)) : (X.set i y).map (·.e) = entsK l (rootS l gap) (k + 1) := by
  rw [entsK_succ (rootS_le l gap) hf hi, List.map_set, hX, hy, hx]
theorem ent_asc (l : List Fnd) (root : Nat → Nat) (r : Nat) : ∀ n, AscC Lib.compareBytes (entK l root r n).hosts ∧ AscC cmpI (entK l root r n).machines
  | 0 => ⟨List.Pairwise.nil, List.Pairwise.nil⟩
  | n + 1 => by
    have ih := ent_asc l root r n
    unfold entK
    split
    · exact ih
    · split
      · unfold entAdd
        refine ⟨insC_strict cmp_bytes (fun x y h => (cmp_zero x y).1 h) ih.1, ?_⟩
        show AscC cmpI (if _ then _ else _)
        split
        · exact ih.2
        · exact insC_strict cmp_int (fun x y h => cmpI_zero.1 h) ih.2
      · exact ih
theorem set_len {ps : List Pr} {p : Pr} {off : Nat} (h : off < ps.length) : (ps.take off ++ [p] ++ ps.drop (off + 1)).length = ps.length := by
  rw [List.length_append, List.length_append, List.length_take, List.length_drop, List.length_singleton]; omega
theorem ent_two {X : List EntV} {x : EntV} {i off1 off2 : Nat} {f : Fnd} {k : Int} {v u : Value} {qs : List Pr} (hx : X[i]? = some x) (h1 : off1 = i * 4 + 1) (h2 : off2 = i * 4 + 3) {ps1 : List Pr} (hp : ps1 = (((X.map rowV).flatten ++ qs).take off1 ++ [andIs v (lens (insT x.e.hosts f.host).length)] ++ ((X.map rowV).flatten ++ qs).drop (off1 + 1))) :
    ps1.take off2 ++ [andIs u (slice 1 ((x.e.fnds.map fun n => [int n]) ++ [[int k]]))] ++ ps1.drop (off2 + 1) = ((X.set i ⟨⟨x.e.num, insT x.e.hosts f.host, x.e.machines, x.e.fnds ++ [k]⟩, v, x.vm, u⟩).map rowV).flatten ++ qs := by
  subst h1 h2
  have hil := lt_of_atX hx
  have e1 := cells_fset (f := rowV) (qs := qs) (y := ⟨⟨x.e.num, insT x.e.hosts f.host, x.e.machines, x.e.fnds⟩, v, x.vm, x.vf⟩) rowV_len hx (show 1 < 4 by decide) (p := andIs v (lens (insT x.e.hosts f.host).length)) rfl
  rw [e1] at hp
  subst hp
  have e2 := cells_fset (f := rowV) (qs := qs) (l := X.set i ⟨⟨x.e.num, insT x.e.hosts f.host, x.e.machines, x.e.fnds⟩, v, x.vm, x.vf⟩) (i := i) (y := ⟨⟨x.e.num, insT x.e.hosts f.host, x.e.machines, x.e.fnds ++ [k]⟩, v, x.vm, u⟩) rowV_len (by rw [List.getElem?_set, if_pos rfl, if_pos hil]) (show 3 < 4 by decide) (p := andIs u (slice 1 ((x.e.fnds.map fun n => [int n]) ++ [[int k]]))) (by show [_, _, _, andIs u _] = [_, _, _, andIs u (ints (x.e.fnds ++ [k]))]; unfold ints; rw [List.map_append]; rfl)
  rw [e2, List.set_set]
theorem ent_one {X : List EntV} {x : EntV} {i off : Nat} {m : Int} {v : Value} {qs : List Pr} (hx : X[i]? = some x) (h1 : off = i * 4 + 2) :
    ((X.map rowV).flatten ++ qs).take off ++ [andIs v (lens (insN x.e.machines m).length)] ++ ((X.map rowV).flatten ++ qs).drop (off + 1) = ((X.set i ⟨⟨x.e.num, x.e.hosts, insN x.e.machines m, x.e.fnds⟩, x.vh, v, x.vf⟩).map rowV).flatten ++ qs := by
  subst h1
  exact cells_fset (f := rowV) (qs := qs) (y := ⟨⟨x.e.num, x.e.hosts, insN x.e.machines m, x.e.fnds⟩, x.vh, v, x.vf⟩) rowV_len hx (show 2 < 4 by decide) (p := andIs v (lens (insN x.e.machines m).length)) rfl
theorem early_no {l : List Fnd} {gap : Int} (h : ¬ earlyR l gap = 0) : entR l gap = ([], earlyR l gap) := by
  unfold earlyR at h ⊢
  by_cases hN : NormP l
  · rw [if_pos hN] at h ⊢
    by_cases hg : gap < 0 ∨ 4000 < gap
    · rw [if_pos hg] at h ⊢
      exact Prod.ext (by rw [entR_gap hN hg]) (by rw [entR_gap hN hg])
    · rw [if_neg hg] at h; exact absurd rfl h
  · rw [if_neg hN] at h ⊢
    exact Prod.ext (by rw [entR_odd hN]) (by rw [entR_odd hN])
theorem early_yes {l : List Fnd} {gap : Int} (h : earlyR l gap = 0) : NormP l ∧ ¬ (gap < 0 ∨ 4000 < gap) := by
  unfold earlyR at h
  by_cases hN : NormP l
  · rw [if_pos hN] at h
    by_cases hg : gap < 0 ∨ 4000 < gap
    · rw [if_pos hg] at h; cases h
    · exact ⟨hN, hg⟩
  · rw [if_neg hN] at h; cases h


theorem w_proots {l : List Fnd} {gap : Int} {k b0 : Nat} (hn : l.length ≤ 400) (hk : k < l.length) : FunM Try.prog 22 [is (.pointer (some ⟨b0, 0, none⟩)), int ((k : Nat) : Int)] (int ((rootS l gap k : Nat) : Int)) (cellsRes true b0 73 (arr (parK l gap l.length))) (fun _ => cellsRes true b0 73 (arr (parK l gap l.length))) := by
  rw [← RR_eq hk]
  exact w_proot (parK_uf hn l.length (Nat.le_refl _)) (by omega)

end Go.Proofs.Ytgdlhajfajddiaa
namespace Go.Proofs.Ytgdlhajfajddiaa
open Go Go.RowKit Cp
set_option maxRecDepth 20000 in
theorem w_IEntities {l : List Fnd} {gap : Int} (hf : ∀ f ∈ l, f.fits) : Fun Try.prog 8 [fnds l, int gap] (tup [ents (entR l gap).1, int (entR l gap).2]) := by
 refine Fun.of Try.func8 rfl rfl (by exact Nat.le_of_ble_eq_true rfl) fun M0 w0 => ?_
 refine Tr.lenm 0 rfl fun hlm_0 => ?_
 refine Tr.seq (Tr.reg0 ?_)
 refine Ch.as rfl rfl rfl rfl rfl ?_
 refine Ch.as rfl rfl rfl rfl rfl ?_
 refine Ch.nil (Fin.go (Tr.seq (Tr.seq (Tr.reg0 ?_))))
 refine Ch.mv rfl rfl rfl rfl rfl ?_
 refine Ch.mv rfl rfl rfl rfl rfl ?_
 refine Ch.oo rfl rfl rfl (ok_call rfl (w_Iearly (by assumption)) ⟨ke rfl, ke rfl, trivial⟩) ?_
 refine Ch.as rfl rfl rfl rfl rfl ?_
 refine Ch.nil (Fin.go (Tr.seq (Tr.reg0 ?_)))
 refine Ch.mv rfl rfl rfl rfl rfl ?_
 refine Ch.oo rfl rfl rfl (ok_int rfl (vl rfl) (vl rfl) rfl) ?_
 refine Ch.nil (Fin.go ?_)
 refine Tr.cn rfl (fun h1 q1 => ?_) (fun h1 q1 => ?_)
 ·
  have hR := early_no (l := l) (gap := gap) q1
  refine Tr.seq (Tr.reg0 ?_)
  refine Ch.mv rfl rfl rfl rfl rfl ?_
  refine Ch.as rfl rfl rfl rfl rfl ?_
  refine Ch.as rfl rfl rfl rfl rfl ?_
  refine Ch.nil (Fin.go (Tr.ret ?_))
  refine Fin.then_ret ?_
  refine Fin.ret2 rfl (OutW.bse _ _) rfl ?_ rfl ?_
  · rw [hR]; exact nil_slice 4
  · rw [hR]; exact Pr.le_refl _
 ·
  obtain ⟨hN, hg⟩ := early_yes (l := l) (gap := gap) q1
  have hd := days_of hN
  have hlen := hN.len
  have hn : l.length ≤ 400 := by omega
  refine Tr.skip (Fin.go (Tr.seq (Tr.regT ?_)))
  refine TO.mv rfl rfl rfl rfl rfl ?_
  refine TO.mv rfl rfl rfl rfl rfl ?_
  refine TO.pad ?_
  refine TO.efs 0 rfl rfl (by decide) (ef_call rfl rfl (by decide) rfl (w_joined hd hn) ⟨ke rfl, ke rfl, trivial⟩) (fun v1 => ?_)
  refine TO.opn 22 0 _ rfl rfl (fun _ => rfl) (fun b1 => ?_)
  refine TO.as rfl rfl rfl rfl rfl ?_
  refine TO.nil (Fin.go (Tr.seq (Tr.reg0 ?_)))
  refine Ch.as rfl rfl rfl rfl rfl ?_
  refine Ch.nil (Fin.go (Tr.seq (Tr.regT ?_)))
  refine TO.mkmap encI rfl rfl (by decide) rfl (fun b2 => ?_)
  refine TO.as rfl rfl rfl rfl rfl ?_
  refine TO.nil (Fin.go ?_)
  refine Tr.w4 0 7 8 9 rfl rfl rfl rfl ?_
  refine Tr.seq (Tr.seq (Tr.reg0 ?_))
  refine Ch.mv rfl rfl rfl rfl rfl ?_
  first
   | refine Ch.oo rfl rfl rfl (ok_lenm rfl Try.underlying22 (vl rfl)) ?_
   | refine Ch.oo rfl rfl rfl (ok_len rfl Try.underlying22 (vl rfl)) ?_
  refine Ch.mv rfl rfl rfl rfl rfl ?_
  refine Ch.nil (Fin.go (Tr.block ?_))
  refine Tr.addown 28 4 ?_
  refine Tr.loopD2V1 [(7, _), (9, _), (24, _), (25, _)] ⟨ke rfl, ke rfl, ke rfl, ke rfl, trivial⟩ (fun (k : Nat) (X : List EntV) v => [(26, int ((k : Nat) : Int)), (8, andIs v (lens ((X.map rowV)).length))]) (fun (k : Nat) (X : List EntV) v => Hp M0 w0 noS (ownRes 28 4 ((X.map rowV)) v :: mapR encI b2 (atM l gap k) :: cellsRes true b1 73 (arr (parK l gap l.length)) :: tab resV X)) (fun (k : Nat) (X : List EntV) => k ≤ l.length ∧ X.map (·.e) = entsK l (rootS l gap) k) (fun (k : Nat) (X : List EntV) => l.length - k) (0) ([]) (.slice none 0 0) (⟨Nat.zero_le _, rfl⟩) ⟨ke rfl, ⟨_, rfl, lens_nil (by rfl)⟩, trivial⟩ (fun _ _ h => h) ?_
  rintro k X v ⟨hkl, hX0⟩
  refine Tr.seq (Tr.reg0 ?_)
  refine Ch.oo rfl rfl rfl (ok_int rfl (vl rfl) (vl rfl) rfl) ?_
  refine Ch.nil (Fin.go (Tr.seq ?_))
  refine Tr.cn rfl (fun h2 q2 => ?_) (fun h2 q2 => ?_)
  ·
   have hk_k : k < l.length := lt_of_dec h2
   obtain ⟨f, hx_k⟩ := at_ hk_k
   have hXk : X.length ≤ k := by have h9 := congrArg List.length hX0; rw [List.length_map, entsK_len] at h9; have := rootsK_le (rootS l gap) k; omega
   refine Tr.skip (Fin.go (Tr.seq (Tr.block (Tr.seq (Tr.regT ?_)))))
   refine TO.mv rfl rfl rfl rfl rfl ?_
   refine TO.oo rfl rfl rfl (ok_indexAddr rfl Try.underlying22 sz45 (vl rfl) (vl rfl) (by omega) (by first | exact row_at (by assumption) | exact row_atI (by assumption) | assumption)) ?_
   refine TO.oo rfl rfl rfl (ok_loadA rfl agg45 sz45 (vl rfl) rfl rfl) ?_
   refine TO.alloc rfl rfl (by decide) rfl z45 zo45 (fun b3 => ?_)
   refine TO.as rfl rfl rfl rfl rfl ?_
   refine TO.store_all 0 rfl rfl rfl (vl rfl) (VL.le (vl rfl) (agg_cellsP _)) rfl sz45 rfl rfl ?_
   refine TO.freeze 0 11 rfl rfl ?_
   refine TO.nil (Fin.go ?_)
   refine Tr.w8 7 8 9 10 11 24 25 26 rfl rfl rfl rfl rfl rfl rfl rfl ?_
   refine Tr.seq (Tr.regT ?_)
   refine TO.mv rfl rfl rfl rfl rfl ?_
   refine TO.mv rfl rfl rfl rfl rfl ?_
   refine TO.efc 2 rfl rfl (by decide) (ef_callc rfl rfl (by decide) rfl (w_proots hn hk_k) ⟨ke rfl, ke rfl, trivial⟩) ?_
   refine TO.as rfl rfl rfl rfl rfl ?_
   refine TO.nil (Fin.go ?_)
   refine Tr.cutD1V1 [(7, _), (9, _), (10, _), (11, _), (12, _), (24, _), (25, _), (26, _)] ⟨ke rfl, ke rfl, ke rfl, ke rfl, ke rfl, ke rfl, ke rfl, ke rfl, trivial⟩ (fun (X : List EntV) v => [(8, andIs v (lens ((X.map rowV)).length))]) (fun (X : List EntV) v => Hp M0 w0 noS (ownRes 28 4 ((X.map rowV)) v :: mapR encI b2 (atM l gap (k + 1)) :: cellsRes true b1 73 (arr (parK l gap l.length)) :: tab resV X)) (fun (X : List EntV) => X.map (·.e) = entsK l (rootS l gap) k ++ if rootS l gap k = k then [(⟨(k : Nat), [], [], []⟩ : Ent)] else []) ?_ ?_
   ·
    refine Tr.seq (Tr.reg0 ?_)
    refine Ch.mv rfl rfl rfl rfl rfl ?_
    refine Ch.mv rfl rfl rfl rfl rfl ?_
    refine Ch.oo rfl rfl rfl (ok_int rfl (vl rfl) (vl rfl) rfl) ?_
    refine Ch.nil (Fin.go ?_)
    refine Tr.w10 7 8 9 10 11 12 24 25 26 36 rfl rfl rfl rfl rfl rfl rfl rfl rfl rfl ?_
    refine Tr.cn rfl (fun h3 q3 => ?_) (fun h3 q3 => ?_)
    ·
     have hr : rootS l gap k = k := by have := q3; omega
     refine Tr.seq (Tr.regT ?_)
     iterate 3 refine TO.mv rfl rfl rfl rfl rfl ?_
     refine TO.oo rfl rfl rfl (okb_lens rfl Try.underlying23 ⟨_, rfl, andIs_le _ _⟩) ?_
     refine TO.ef0 1 rfl rfl (ef_mapupd (((rootS l gap k : Nat) : Int)) mapT_int rfl rfl rfl (vl rfl) (vl rfl) (fun _ _ _ h => h) (vl rfl)) ?_
     refine TO.nil (Fin.go ?_)
     refine Tr.w9 7 8 9 10 11 12 24 25 26 rfl rfl rfl rfl rfl rfl rfl rfl rfl ?_
     refine Tr.regT ?_
     refine TO.mv rfl rfl rfl rfl rfl ?_
     refine TO.mv rfl rfl rfl rfl rfl ?_
     refine TO.oo rfl rfl rfl (ok_build (rows := [(0, [_])]) rfl bl28 zo28 ⟨⟨rfl, (VL.le (vl rfl) (one_cellsP _))⟩, trivial⟩ rfl) ?_
     refine TO.oo rfl rfl rfl (ok_buildSlice (xs := [.tmp 43]) (rows := [_]) rfl rfl Try.underlying23 sz28 z28 rfl (by decide) ⟨⟨(by exact rfl), (VL.le (vl rfl) (agg_cellsP _))⟩, trivial⟩ (by decide)) ?_
     refine TO.efs 0 rfl rfl (by decide) (ef_appmut rfl rfl (by decide) rfl Try.underlying23 sz28 by28 z28 rfl (by decide) (by decide) (vl rfl) ⟨_, rfl, newV_row k⟩ (map_rows fun _ => rfl) (Nat.zero_lt_succ _) (by simp only [List.length_map, List.length_cons, List.length_nil]; unfold maxLen; omega) (by simp only [List.length_map, List.length_cons, List.length_nil]; omega)) (fun v2 => ?_)
     refine TO.as rfl rfl rfl rfl rfl ?_
     refine TO.nil ?_
     have hlen2 : (X.map rowV).length = (entsK l (rootS l gap) k).length := by rw [List.length_map, ← hX0, List.length_map]
     refine Fin.tabnew (res := resV) [_, _, _] (newV k) rfl (newV_res k) ?_
     exact Fin.famD1V1 (X ++ [newV k]) v2 ((by first | rw [if_pos hr, List.map_append, hX0]; rfl | rw [if_neg hr, hX0, List.append_nil])) ⟨⟨_, rfl, lens_le (by simp)⟩, ke rfl, ke rfl, ke rfl, ke rfl, ke rfl, ke rfl, ke rfl, ke rfl, trivial⟩ ((by first | (rw [atM_yes hr, ← hlen2, List.map_append]; exact fun _ _ h => h) | (rw [atM_no hr]; exact fun _ _ h => h)))
    ·
     have hr : ¬ rootS l gap k = k := by have := q3; omega
     refine Tr.skip ?_
     have hlen2 : (X.map rowV).length = (entsK l (rootS l gap) k).length := by rw [List.length_map, ← hX0, List.length_map]
     exact Fin.famD1V1 (X) v ((by first | rw [if_pos hr, List.map_append, hX0]; rfl | rw [if_neg hr, hX0, List.append_nil])) ⟨⟨_, rfl, lens_le (by simp)⟩, ke rfl, ke rfl, ke rfl, ke rfl, ke rfl, ke rfl, ke rfl, ke rfl, trivial⟩ ((by first | (rw [atM_yes hr, ← hlen2, List.map_append]; exact fun _ _ h => h) | (rw [atM_no hr]; exact fun _ _ h => h)))
   ·
    rintro X v hX
    refine Tr.seq ?_
    obtain ⟨i, hir, hil⟩ := root_in (gap := gap) hk_k
    obtain ⟨x, hx, hxe⟩ := ents_at hX hir
    have hiX : i < X.length := lt_of_atX hx
    have hXl : (X.map rowV).length = X.length := List.length_map ..
    have hlk : (Cp.look (atM l gap (k + 1)) ((rootS l gap k : Nat) : Int)).getD 0 = ((i : Nat) : Int) := by rw [hil]; rfl
    refine Tr.openG (sz := 4) 0 rfl (by intro h0; rw [h0] at hXl; simp at hXl; omega) fun b4 cap4 sp4 hv4 hg4 hm4 hs4 => ?_
    subst hv4
    have hcl : ((X.map rowV).flatten ++ sp4.map is).length = cap4 * 4 := by rw [List.length_append, flat_len (sz := 4) (map_rows rowV_len), List.length_map, List.length_map, hs4, ← Nat.add_mul]; congr 1; omega
    have hasc := ent_asc l (rootS l gap) (rootS l gap k) k
    have hel := ent_lens l (rootS l gap) (rootS l gap k) k
    rw [← hxe] at hasc hel
    have hmul : i * 4 + 4 ≤ cap4 * 4 := by have := Nat.mul_le_mul_right 4 (show i + 1 ≤ cap4 by omega); omega
    refine Tr.regT ?_
    iterate 3 refine TO.mv rfl rfl rfl rfl rfl ?_
    refine TO.rd 1 rfl rfl rfl (by decide) (rd_lookup0 (((rootS l gap k : Nat) : Int)) mapT_int rfl (vl rfl) (vl rfl) (fun _ _ _ h => h)) ?_
    refine TO.oo rfl rfl rfl (okp_indexSl rfl Try.underlying23 sz28 ⟨_, rfl, andIs_is _ _⟩ (vl rfl) (by omega) (by omega)) ?_
    refine TO.as rfl rfl rfl rfl rfl ?_
    refine TO.nil (Fin.go ?_)
    refine Tr.w9 7 8 9 10 11 13 24 25 26 rfl rfl rfl rfl rfl rfl rfl rfl rfl ?_
    refine Tr.seq ?_
    refine Tr.weak [(13, ptr b4 (i * 4)), (7, _), (8, _), (9, _), (10, _), (11, _), (24, _), (25, _), (26, _)] ⟨⟨_, rfl, Pr.le_of_eq (by rw [hlk, Int.toNat_natCast, Nat.zero_add])⟩, ke rfl, ke rfl, ke rfl, ke rfl, ke rfl, ke rfl, ke rfl, ke rfl, trivial⟩ ?_
    refine Tr.focus [_, _, _] hx rfl ?_
    refine Tr.pad ?_
    refine Tr.regX mixed [none, none, none, none, none, some (0, 4, false, 0), none, none, some (0, 1, true, 59), none, none, none, some (0, 4, false, 0), none, none, some (0, 3, true, 66), none, none, some (0, 4, true, 59), none, none, some (59, 4, true, .two 59 66)] (by kernel_rfl) ?_
    iterate 3 refine Cx.mv rfl rfl rfl rfl rfl ?_
    refine Cx.oo rfl rfl rfl (fun _ => okp_nilCheck rfl (vl rfl)) ?_
    refine Cx.oo rfl rfl rfl (fun _ => okp_fieldAddr rfl fo28_1 (vl rfl)) ?_
    refine Cx.rd 4 rfl rfl rfl (by decide) (rd_load1 rfl one25 (vl rfl) ((cells_fld rowV_len hx (by decide)).trans rfl)) ?_
    refine Cx.oo rfl rfl rfl (fun _ => ok_fieldAddr rfl fo45_1 (vl rfl) rfl) ?_
    refine Cx.oo rfl rfl rfl (fun _ => ok_load1 rfl one9 (vl rfl)) ?_
    refine Cx.ef 1 rfl rfl (by decide) (ef_call rfl rfl (by decide) rfl (w_inss (l := x.e.hosts) (x := f.host) hasc.1 (by omega)) ⟨ke rfl, ke rfl, trivial⟩) ?_
    refine Cx.mv rfl rfl rfl rfl rfl ?_
    refine Cx.oo rfl rfl rfl (fun _ => okp_nilCheck rfl (vl rfl)) ?_
    refine Cx.oo rfl rfl rfl (fun _ => okp_fieldAddr rfl fo28_3 (vl rfl)) ?_
    refine Cx.rd 4 rfl rfl rfl (by decide) (rd_load1 rfl one26 (vl rfl) ((cells_fld rowV_len hx (by decide)).trans rfl)) ?_
    refine Cx.mv rfl rfl rfl rfl rfl ?_
    refine Cx.oo rfl rfl rfl (fun _ => ok_buildSlice (xs := [.tmp 64]) (rows := [[_]]) rfl rfl Try.underlying26 sz3 z3 rfl (by decide) ⟨⟨(by exact rfl), (VL.le (vl rfl) (one_cellsP _))⟩, trivial⟩ (by decide)) ?_
    refine Cx.ef 3 rfl rfl (by decide) (ef_append rfl rfl (by decide) rfl Try.underlying26 sz3 by3 z3 rfl (by decide) ⟨_, rfl, andIs_le _ _⟩ ⟨_, rfl, full_le _ _⟩ (by simp only [List.length_map, List.length_append, List.length_cons, List.length_nil]; unfold maxLen; omega) (by simp only [List.length_map, List.length_append, List.length_cons, List.length_nil]; omega) (appR_is (by exact List.Mem.head _) ⟨_, rfl, andIs_is _ _⟩)) ?_
    refine Cx.oo rfl rfl rfl (fun _ => okp_nilCheck rfl (vl rfl)) ?_
    refine Cx.oo rfl rfl rfl (fun _ => okp_fieldAddr rfl fo28_1 (vl rfl)) ?_
    refine Cx.ef0 4 rfl rfl (ef_storeS rfl rfl rfl (vl rfl) rfl sz25 (by rw [hcl]; omega)) ?_
    refine Cx.oo rfl rfl rfl (fun _ => okp_nilCheck rfl (vl rfl)) ?_
    refine Cx.oo rfl rfl rfl (fun _ => okp_fieldAddr rfl fo28_3 (vl rfl)) ?_
    refine Cx.ef0 4 rfl rfl (ef_storeT rfl rfl rfl (vl rfl) rfl sz26 (fun v => by rw [set_len (by rw [hcl]; omega), hcl]; omega)) ?_
    refine Cx.nil ⟨rfl, ?_⟩
    refine FinX.open3 1 3 4 59 66 rfl rfl rfl (by decide) (by decide) (by decide) (by decide) rfl rfl (fun v3 v4 => ?_)
    refine FinX.done (AllC.cons (AllC.cons (AllC.cons (AllC.cons (AllC.cons (AllC.cons (AllC.cons (AllC.map _)))))))) ?_
    refine Fin.go ?_
    refine Tr.drop 0 ?_
    refine Tr.w8 7 8 9 11 13 24 25 26 rfl rfl rfl rfl rfl rfl rfl rfl ?_
    refine Tr.seq ?_
    refine Tr.eqC 3 (((X.set i ⟨⟨x.e.num, insT x.e.hosts f.host, x.e.machines, x.e.fnds ++ [((k : Nat) : Int)]⟩, v3, x.vm, v4⟩).map rowV).flatten ++ sp4.map is) rfl (ent_two hx (by omega) (by omega) rfl) ?_
    have hx1 : (X.set i ⟨⟨x.e.num, insT x.e.hosts f.host, x.e.machines, x.e.fnds ++ [((k : Nat) : Int)]⟩, v3, x.vm, v4⟩)[i]? = some ⟨⟨x.e.num, insT x.e.hosts f.host, x.e.machines, x.e.fnds ++ [((k : Nat) : Int)]⟩, v3, x.vm, v4⟩ := by rw [List.getElem?_set, if_pos rfl, if_pos hiX]
    have hcl1 : (((X.set i ⟨⟨x.e.num, insT x.e.hosts f.host, x.e.machines, x.e.fnds ++ [((k : Nat) : Int)]⟩, v3, x.vm, v4⟩).map rowV).flatten ++ sp4.map is).length = cap4 * 4 := by rw [List.length_append, flat_len (sz := 4) (map_rows rowV_len), List.length_map, List.length_set, List.length_map, hs4, ← Nat.add_mul]; congr 1; omega
    refine Tr.reg0 ?_
    refine Ch.oo rfl rfl rfl (ok_fieldAddr rfl fo45_2 (vl rfl) rfl) ?_
    refine Ch.oo rfl rfl rfl (ok_load1 rfl one3 (vl rfl)) ?_
    refine Ch.oo rfl rfl rfl (ok_int rfl (vl rfl) (vl rfl) rfl) ?_
    refine Ch.nil (Fin.go ?_)
    refine Tr.cn rfl (fun h4 q4 => ?_) (fun h4 q4 => ?_)
    ·
     refine Tr.regX mixed [none, none, none, none, some (0, 3, false, 0), none, none, some (0, 1, true, 81), none, none, some (0, 3, true, 81)] (by kernel_rfl) ?_
     refine Cx.mv rfl rfl rfl rfl rfl ?_
     refine Cx.mv rfl rfl rfl rfl rfl ?_
     refine Cx.oo rfl rfl rfl (fun _ => okp_nilCheck rfl (vl rfl)) ?_
     refine Cx.oo rfl rfl rfl (fun _ => okp_fieldAddr rfl fo28_2 (vl rfl)) ?_
     refine Cx.rd 3 rfl rfl rfl (by decide) (rd_load1 rfl one26 (vl rfl) ((cells_fld rowV_len hx1 (by decide)).trans rfl)) ?_
     refine Cx.oo rfl rfl rfl (fun _ => ok_fieldAddr rfl fo45_2 (vl rfl) rfl) ?_
     refine Cx.oo rfl rfl rfl (fun _ => ok_load1 rfl one3 (vl rfl)) ?_
     refine Cx.ef 1 rfl rfl (by decide) (ef_call rfl rfl (by decide) rfl (w_insi (l := x.e.machines) (x := f.machine) hasc.2 (by omega)) ⟨ke rfl, ke rfl, trivial⟩) ?_
     refine Cx.oo rfl rfl rfl (fun _ => okp_nilCheck rfl (vl rfl)) ?_
     refine Cx.oo rfl rfl rfl (fun _ => okp_fieldAddr rfl fo28_2 (vl rfl)) ?_
     refine Cx.ef0 3 rfl rfl (ef_storeS rfl rfl rfl (vl rfl) rfl sz26 (by rw [hcl1]; omega)) ?_
     refine Cx.nil ⟨rfl, ?_⟩
     refine FinX.open2 1 3 81 rfl rfl (by decide) rfl (fun v5 => ?_)
     refine FinX.done (AllC.cons (AllC.cons (AllC.cons (AllC.cons (AllC.cons (AllC.cons (AllC.map _))))))) ?_
     refine Fin.block (Fin.go ?_)
     refine Tr.w6 7 8 9 24 25 26 rfl rfl rfl rfl rfl rfl ?_
     refine Tr.reg0 ?_
     first
      | (refine Ch.oo rfl rfl rfl (ok_add rfl (vl rfl) (vl rfl) ?hin) ?_; case hin => unfold InI; omega)
      | refine Ch.oo rfl rfl rfl (ok_int rfl (vl rfl) (vl rfl) rfl) ?_
     refine Ch.mv rfl rfl rfl rfl rfl ?_
     refine Ch.nil ?_
     refine Fin.eqC 3 (((X.set i ⟨⟨x.e.num, insT x.e.hosts f.host, insN x.e.machines f.machine, x.e.fnds ++ [((k : Nat) : Int)]⟩, v3, v5, v4⟩).map rowV).flatten ++ sp4.map is) rfl ((ent_one (X := X.set i ⟨⟨x.e.num, insT x.e.hosts f.host, x.e.machines, x.e.fnds ++ [((k : Nat) : Int)]⟩, v3, x.vm, v4⟩) hx1 (by omega)).trans (by rw [List.set_set])) ?_
     refine Fin.unfocus (res := resV) [_, _, _] (⟨⟨x.e.num, insT x.e.hosts f.host, insN x.e.machines f.machine, x.e.fnds ++ [((k : Nat) : Int)]⟩, v3, v5, v4⟩ : EntV) hiX rfl ?_
     refine Fin.closeG (sz := 4) 0 rfl (m := (X.map rowV).length) (by simp) hg4 hm4 hs4 ?_
     exact Fin.famD2V1 (k + 1) (X.set i ⟨⟨x.e.num, insT x.e.hosts f.host, insN x.e.machines f.machine, x.e.fnds ++ [((k : Nat) : Int)]⟩, v3, v5, v4⟩) (.slice (some ⟨b4, 0, none⟩) (X.map rowV).length cap4) (⟨⟨by omega, ents_next hx_k hX hir hxe (by unfold entAdd; first | rw [if_pos (by assumption)] | rw [if_neg (by assumption)])⟩, by omega⟩) ⟨⟨_, rfl, int_succ k⟩, ⟨_, rfl, lens_le (by simp)⟩, ke rfl, ke rfl, ke rfl, ke rfl, trivial⟩ (fun _ _ h => h)
    ·
     refine Tr.skip (Fin.block (Fin.go (Tr.reg0 ?_)))
     first
      | (refine Ch.oo rfl rfl rfl (ok_add rfl (vl rfl) (vl rfl) ?hin) ?_; case hin => unfold InI; omega)
      | refine Ch.oo rfl rfl rfl (ok_int rfl (vl rfl) (vl rfl) rfl) ?_
     refine Ch.mv rfl rfl rfl rfl rfl ?_
     refine Ch.nil ?_
     refine Fin.unfocus (res := resV) [_, _, _] (⟨⟨x.e.num, insT x.e.hosts f.host, x.e.machines, x.e.fnds ++ [((k : Nat) : Int)]⟩, v3, x.vm, v4⟩ : EntV) hiX rfl ?_
     refine Fin.closeG (sz := 4) 0 rfl (m := (X.map rowV).length) (by simp) hg4 hm4 hs4 ?_
     exact Fin.famD2V1 (k + 1) (X.set i ⟨⟨x.e.num, insT x.e.hosts f.host, x.e.machines, x.e.fnds ++ [((k : Nat) : Int)]⟩, v3, x.vm, v4⟩) (.slice (some ⟨b4, 0, none⟩) (X.map rowV).length cap4) (⟨⟨by omega, ents_next hx_k hX hir hxe (by unfold entAdd; first | rw [if_pos (by assumption)] | rw [if_neg (by assumption)])⟩, by omega⟩) ⟨⟨_, rfl, int_succ k⟩, ⟨_, rfl, lens_le (by simp)⟩, ke rfl, ke rfl, ke rfl, ke rfl, trivial⟩ (fun _ _ h => h)
  ·
   obtain rfl : k = l.length := (by have := ge_of_dec h2; omega)
   refine Tr.exit ?_
   refine Fin.then_exit ?_
   refine Fin.then_exit ?_
   refine Fin.block_here ?_
   refine Fin.go (Tr.seq ?_)
   refine Tr.frzTab (Φ := PhiV) (f := rowV) (g := rowW) (d := 8) [_, _] rfl rfl rowV_len (fun _ => rfl) PhiV_st (fun x rs M w => PhiV_frz x rs M w) PhiV_row ?_
   refine Tr.reg0 ?_
   refine Ch.mv rfl rfl rfl rfl rfl ?_
   refine Ch.as rfl rfl rfl rfl rfl ?_
   refine Ch.as rfl rfl rfl rfl rfl ?_
   refine Ch.nil (Fin.go (Tr.ret ?_))
   refine Fin.ret2 rfl (OutW.bse _ _) rfl ?_ rfl ?_
   · rw [entR_ok hN (by omega)]; exact Pr.le_trans (andIs_le _ _) (Pr.le_of_eq (by show slice 4 _ = slice 4 ((entsK l (rootS l gap) l.length).map rowE); rw [← hX0, List.map_map]; rfl))
   · rw [entR_ok hN (by omega)]; exact Pr.le_refl _
end Go.Proofs.Ytgdlhajfajddiaa
namespace Go.Proofs.Ytgdlhajfajddiaa
open Go Go.RowKit Cp

section
variable {l : List Fnd} {gap : Int} {root : Nat → Nat}
theorem fnds_mem {r : Nat} {v : Int} : ∀ {n : Nat}, n ≤ l.length → (v ∈ (entK l root r n).fnds ↔ ∃ j : Nat, j < n ∧ root j = r ∧ v = (j : Nat))
  | 0, _ => by simp [entK]
  | n + 1, hn => by
    obtain ⟨f, hf⟩ := at_ (l := l) (k := n) (by omega)
    have ih := fnds_mem (r := r) (v := v) (n := n) (by omega)
    by_cases h : root n = r
    · rw [entK_yes hf h]
      show v ∈ _ ++ [_] ↔ _
      rw [List.mem_append, ih, List.mem_singleton]
      constructor
      · rintro (⟨j, h1, h2, h3⟩ | h1)
        · exact ⟨j, by omega, h2, h3⟩
        · exact ⟨n, by omega, h, h1⟩
      · rintro ⟨j, h1, h2, h3⟩
        rcases Nat.lt_or_eq_of_le (Nat.le_of_lt_succ h1) with h4 | h4
        · exact .inl ⟨j, h4, h2, h3⟩
        · subst h4; exact .inr h3
    · rw [entK_no h, ih]
      constructor
      · rintro ⟨j, h1, h2, h3⟩; exact ⟨j, by omega, h2, h3⟩
      · rintro ⟨j, h1, h2, h3⟩
        rcases Nat.lt_or_eq_of_le (Nat.le_of_lt_succ h1) with h4 | h4
        · exact ⟨j, h4, h2, h3⟩
        · subst h4; exact absurd h2 h
theorem fnds_count {r j : Nat} : ∀ {n : Nat}, n ≤ l.length → (entK l root r n).fnds.count ((j : Nat) : Int) = if j < n ∧ root j = r then 1 else 0
  | 0, _ => by simp [entK]
  | n + 1, hn => by
    obtain ⟨f, hf⟩ := at_ (l := l) (k := n) (by omega)
    have ih := fnds_count (r := r) (j := j) (n := n) (by omega)
    by_cases h : root n = r
    · rw [entK_yes hf h]
      show (_ ++ [_]).count _ = _
      rw [List.count_append, ih, List.count_singleton]
      by_cases hj : j = n
      · subst hj
        rw [if_neg (by omega), if_pos (by simp), if_pos ⟨by omega, h⟩]
      · rw [show (if ((n : Nat) : Int) == ((j : Nat) : Int) then 1 else 0) = 0 from if_neg (by simp; omega), Nat.add_zero]
        by_cases h1 : j < n ∧ root j = r
        · rw [if_pos h1, if_pos ⟨by omega, h1.2⟩]
        · rw [if_neg h1, if_neg (by omega)]
    · rw [entK_no h, ih]
      by_cases h1 : j < n ∧ root j = r
      · rw [if_pos h1, if_pos ⟨by omega, h1.2⟩]
      · rw [if_neg h1, if_neg]
        rintro ⟨h2, h3⟩
        rcases Nat.lt_or_eq_of_le (Nat.le_of_lt_succ h2) with h4 | h4
        · exact h1 ⟨h4, h3⟩
        · subst h4; exact h h3
theorem fnds_head {r : Nat} (hle : ∀ i, root i ≤ i) (hr : root r = r) : ∀ {n : Nat}, n ≤ l.length → r < n → (entK l root r n).fnds[0]? = some ((r : Nat) : Int)
  | 0, _, h => absurd h (Nat.not_lt_zero _)
  | n + 1, hn, h => by
    obtain ⟨f, hf⟩ := at_ (l := l) (k := n) (by omega)
    rcases Nat.lt_or_eq_of_le (Nat.le_of_lt_succ h) with h1 | h1
    · have ih := fnds_head hle hr (n := n) (by omega) h1
      by_cases h2 : root n = r
      · rw [entK_yes hf h2]
        show (_ ++ [_])[0]? = _
        rw [List.getElem?_append_left (by have := lt_of_atX ih; omega)]; exact ih
      · rw [entK_no h2]; exact ih
    · subst h1
      rw [entK_yes hf hr, entK_none hle r (Nat.le_refl _)]; rfl
theorem ents_of {e : Ent} {n' : Nat} (h : e ∈ entsK l root n') : ∃ r, r < n' ∧ root r = r ∧ e = entK l root r n' := by
  unfold entsK at h
  rw [List.mem_map] at h
  obtain ⟨r, h1, h2⟩ := h
  exact ⟨r, (rootsK_lt h1).1, (rootsK_lt h1).2, h2.symm⟩
theorem of_root {i : Nat} (hi : i < l.length) : ofE (entsF l gap) ((i : Nat) : Int) = ((rootS l gap i : Nat) : Int) := by
  unfold ofE
  have hid := rootS_idem (gap := gap) hi
  have hle := rootS_le l gap
  have hmem : entK l (rootS l gap) (rootS l gap i) l.length ∈ entsF l gap := by
    unfold entsF entsK
    refine List.mem_map.2 ⟨rootS l gap i, ?_, rfl⟩
    unfold rootsK
    rw [List.mem_filter, List.mem_range]
    exact ⟨by have := hle i; omega, by simpa using hid⟩
  have hany : (entK l (rootS l gap) (rootS l gap i) l.length).fnds.any (fun x => ((i : Nat) : Int) == x) = true := by
    rw [List.any_eq_true]
    exact ⟨(i : Nat), (fnds_mem (Nat.le_refl _)).2 ⟨i, hi, rfl, rfl⟩, by simp⟩
  cases hf : (entsF l gap).find? fun e => e.fnds.any fun x => ((i : Nat) : Int) == x with
  | none =>
    rw [List.find?_eq_none] at hf
    exact absurd hany (hf _ hmem)
  | some e =>
    have h1 := List.find?_some hf
    obtain ⟨r, h2, h3, rfl⟩ := ents_of (List.mem_of_find?_eq_some hf)
    rw [List.any_eq_true] at h1
    obtain ⟨x, h4, h5⟩ := h1
    obtain ⟨j, h6, h7, h8⟩ := (fnds_mem (Nat.le_refl _)).1 h4
    have : i = j := by have : ((i : Nat) : Int) = x := by simpa using h5
                       omega
    subst this
    show (entK l (rootS l gap) r l.length).num = _
    rw [ent_num, ← h7]
theorem root_mOf : ∀ i, mOf l gap (rootS l gap i) = mOf l gap i := by
  intro i
  induction i using Nat.strongRecOn with
  | _ i ih =>
    by_cases h : mOf l gap i = 0
    · by_cases hp : 0 ≤ prevK l gap i ∧ nextTo l gap (prevK l gap i).toNat i = true
      · rw [rootS_loose h hp.1 hp.2]
        rcases prevK_in l gap i with h1 | ⟨_, h2, h3⟩
        · omega
        · rw [ih _ h2, h3, h]
      · rw [rootS_alone h hp]
    · exact (rootS_m h).1
/-- The machines of an entity: none, or the one of its findings. -/
theorem ent_mach {r : Nat} : ∀ {n : Nat}, n ≤ l.length → ((entK l (rootS l gap) r n).machines = [] ∧ ∀ (j : Nat) f, j < n → rootS l gap j = r → l[j]? = some f → f.machine = 0) ∨ (entK l (rootS l gap) r n).machines = [mOf l gap r]
  | 0, _ => .inl ⟨rfl, fun j f h => absurd h (Nat.not_lt_zero _)⟩
  | n + 1, hn => by
    obtain ⟨f, hf⟩ := at_ (l := l) (k := n) (by omega)
    have ih := ent_mach (r := r) (n := n) (by omega)
    by_cases h : rootS l gap n = r
    · rw [entK_yes hf h]
      show ((if f.machine = 0 then _ else _) = _ ∧ _) ∨ (if f.machine = 0 then _ else _) = _
      by_cases hm : f.machine = 0
      · rw [if_pos hm]
        rcases ih with ⟨h1, h2⟩ | h1
        · refine .inl ⟨h1, fun j g hj hr hg => ?_⟩
          rcases Nat.lt_or_eq_of_le (Nat.le_of_lt_succ hj) with h5 | h5
          · exact h2 j g h5 hr hg
          · subst h5; rw [hf] at hg; cases hg; exact hm
        · exact .inr h1
      · rw [if_neg hm]
        have hmr : f.machine = mOf l gap r := by rw [← h, root_mOf, mOf_own hf hm]
        refine .inr ?_
        rcases ih with ⟨h1, _⟩ | h1
        · rw [h1, hmr]; rfl
        · rw [h1, hmr]
          show insC cmpI [mOf l gap r] (mOf l gap r) = _
          unfold insC
          have h0 : cmpI (mOf l gap r) (mOf l gap r) = 0 := cmpI_zero.2 rfl
          rw [if_neg (by omega), if_pos h0]
    · rw [entK_no h]
      rcases ih with ⟨h1, h2⟩ | h1
      · refine .inl ⟨h1, fun j g hj hr hg => ?_⟩
        rcases Nat.lt_or_eq_of_le (Nat.le_of_lt_succ hj) with h5 | h5
        · exact h2 j g h5 hr hg
        · subst h5; exact absurd hr h
      · exact .inr h1
end


/-- How often each of n numbers stands in a list. -/
def cntL (n : Nat) (p : List Int) : List Int := (List.range n).map fun j => ((p.count ((j : Nat) : Int) : Nat) : Int)
theorem cntL_len (n : Nat) (p : List Int) : (cntL n p).length = n := by unfold cntL; simp
theorem cntL_at {n j : Nat} {p : List Int} (h : j < n) : (cntL n p)[j]? = some ((p.count ((j : Nat) : Int) : Nat) : Int) := by unfold cntL; rw [List.getElem?_map, List.getElem?_range h]; rfl
theorem cntL_nil (n : Nat) : cntL n [] = List.replicate n 0 := by
  unfold cntL
  rw [List.eq_replicate_iff]
  refine ⟨by simp, fun b hb => ?_⟩
  rw [List.mem_map] at hb
  obtain ⟨j, _, h⟩ := hb
  rw [← h]; rfl
theorem cntL_add {n j : Nat} {p : List Int} (h : j < n) : (cntL n p).set j (((p.count ((j : Nat) : Int) : Nat) : Int) + 1) = cntL n (p ++ [((j : Nat) : Int)]) := by
  refine List.ext_getElem? fun i => ?_
  rw [List.getElem?_set]
  by_cases hi : j = i
  · subst hi
    rw [if_pos rfl, if_pos (by rw [cntL_len]; exact h), cntL_at h, List.count_append]; simp
  · rw [if_neg hi]
    rcases Nat.lt_or_ge i n with h1 | h1
    · rw [cntL_at h1, cntL_at h1, List.count_append, List.count_singleton, if_neg (by simp; omega)]; rfl
    · rw [List.getElem?_eq_none (by rw [cntL_len]; exact h1), List.getElem?_eq_none (by rw [cntL_len]; exact h1)]
theorem sum_zero : ∀ R : List Nat, (∀ x ∈ R, x = 0) → R.sum = 0
  | [], _ => rfl
  | x :: R, h => by rw [List.sum_cons, h x (List.mem_cons_self ..), sum_zero R fun y hy => h y (List.mem_cons_of_mem _ hy)]
theorem ind_sum {r0 : Nat} : ∀ {R : List Nat}, R.Pairwise (· < ·) → r0 ∈ R → (R.map fun r => if r0 = r then 1 else 0).sum = 1
  | [], _, h => by simp at h
  | r :: R, hp, h => by
    obtain ⟨h1, h2⟩ := List.pairwise_cons.1 hp
    rw [List.map_cons, List.sum_cons]
    by_cases hr : r0 = r
    · subst hr
      have : (R.map fun r => if r0 = r then 1 else 0).sum = 0 := by
        refine sum_zero _ fun x hx => ?_
        rw [List.mem_map] at hx
        obtain ⟨s, hs, rfl⟩ := hx
        have := h1 s hs
        rw [if_neg (by omega)]
      rw [if_pos rfl, this]
    · rw [if_neg hr, ind_sum h2 (by rcases List.mem_cons.1 h with h3 | h3; exact absurd h3 hr; exact h3)]
theorem all_count {l : List Fnd} {gap : Int} {j : Nat} (hj : j < l.length) : ((entsF l gap).flatMap (·.fnds)).count ((j : Nat) : Int) = 1 := by
  have hid := rootS_idem (gap := gap) hj
  have hle := rootS_le l gap j
  rw [List.count_flatMap]
  unfold entsF entsK
  rw [List.map_map]
  have e : (rootsK (rootS l gap) l.length).map ((List.count ((j : Nat) : Int) ∘ fun x => x.fnds) ∘ fun r => entK l (rootS l gap) r l.length) = (rootsK (rootS l gap) l.length).map fun r => if rootS l gap j = r then 1 else 0 := by
    refine List.map_congr_left fun r _ => ?_
    show (entK l (rootS l gap) r l.length).fnds.count ((j : Nat) : Int) = _
    rw [fnds_count (Nat.le_refl _)]
    by_cases h : rootS l gap j = r
    · rw [if_pos ⟨hj, h⟩, if_pos h]
    · rw [if_neg (fun hh => h hh.2), if_neg h]
  rw [e]
  refine ind_sum (rootsK_asc _ _) ?_
  unfold rootsK
  rw [List.mem_filter, List.mem_range]
  exact ⟨by omega, by simpa using hid⟩

end Go.Proofs.Ytgdlhajfajddiaa
namespace Go.Proofs.Ytgdlhajfajddiaa
open Go Go.RowKit Cp Go.ChangeShapes Go.WideShapes Go.ChangeAt

theorem own0 : ownKnob Try.prog.godebug = none := by kernel_rfl
theorem laidOut0 : laidOutB Try.prog = true := by kernel_rfl
theorem u8_in {n : Int} (h : (Lit.int .u8 n).wf = true) : 0 ≤ n ∧ n < 256 := by
  simp only [Lit.wf, Bool.and_eq_true, decide_eq_true_eq] at h
  have h1 : IntKind.u8.min = 0 := rfl
  have h2 : IntKind.u8.max = 255 := rfl
  omega
theorem i64_in {n : Int} (h : (Lit.int .i64 n).wf = true) : InI n := by
  simp only [Lit.wf, Bool.and_eq_true, decide_eq_true_eq] at h
  have h1 : IntKind.i64.min = -9223372036854775808 := rfl
  have h2 : IntKind.i64.max = 9223372036854775807 := rfl
  unfold InI; omega
theorem opens_ints {P : Program} {t e : TypeId} (ht : P.underlying t = some (.slice e)) (he : P.underlying e = some (.int .i64)) (hc : P.cellsOf e = 1) : Opens P t (fun l : List Int => l.length ≤ maxLen ∧ ∀ n ∈ l, InI n) (fun l => [ints l]) :=
  (opens_slice ht hc (opens_int he)).map id (fun _ h => ⟨h.2, fun n hn => i64_in (h.1 n hn)⟩) (fun _ => rfl)

end Go.Proofs.Ytgdlhajfajddiaa
namespace Go.Proofs.Ytgdlhajfajddiaa
open Go Go.RowKit Cp Go.ChangeShapes Go.WideShapes Go.ChangeAt

abbrev bF : Fnd := ⟨1, [97], 1, 3, 9, 4, [115], 0, 0, 1, []⟩
abbrev bG : Fnd := ⟨1, [97], 0, 5, 9, 4, [115], 0, 0, 1, []⟩
theorem b_check : ∀ f ∈ [bF, bG], checkF f = true := by decide +kernel
theorem b_fits : ∀ f ∈ [bG, bF], f.fits := by
  intro f hf
  simp at hf
  rcases hf with rfl | rfl <;> exact ⟨by simp [maxLen], by simp [maxLen], by simp [maxLen]⟩
theorem b_norm : [bF, bG].foldl putF [] = [bG, bF] := by kernel_rfl
theorem b_NormP : NormP [bG, bF] := by have := norm_ok b_check (by simp); rwa [b_norm] at this
theorem w_NormB : Fun Try.prog 7 [fnds [bF, bG]] (tup [fnds [bG, bF], int 0]) := by
  have := w_R14Norm (l := [bF, bG]) b_check (by simp); rwa [b_norm] at this
theorem entK_congr (l : List Fnd) {r1 r2 : Nat → Nat} (r : Nat) : ∀ n, (∀ i, i < n → r1 i = r2 i) → entK l r1 r n = entK l r2 r n
  | 0, _ => rfl
  | n + 1, h => by unfold entK; rw [entK_congr l r n (fun i hi => h i (by omega)), h n (by omega)]
theorem entsK_congr (l : List Fnd) {r1 r2 : Nat → Nat} (n : Nat) (h : ∀ i, i < n → r1 i = r2 i) : entsK l r1 n = entsK l r2 n := by
  unfold entsK
  have e : rootsK r1 n = rootsK r2 n := by
    unfold rootsK
    refine List.filter_congr fun i hi => ?_
    rw [h i (List.mem_range.1 hi)]
  rw [e]
  exact List.map_congr_left fun r _ => entK_congr l r n h
theorem entsF_RR (l : List Fnd) (gap : Int) : entsF l gap = entsK l (RR l gap l.length) l.length := entsK_congr l l.length fun i hi => (RR_eq hi).symm
theorem b_ents2 : entsF [bG, bF] 2 = [⟨0, [[97]], [1], [0, 1]⟩] := by rw [entsF_RR]; decide +kernel
theorem b_ents1 : entsF [bG, bF] 1 = [⟨0, [[97]], [], [0]⟩, ⟨1, [[97]], [1], [1]⟩] := by rw [entsF_RR]; decide +kernel
theorem w_EntB2 : Fun Try.prog 8 [fnds [bG, bF], int 2] (tup [ents [⟨0, [[97]], [1], [0, 1]⟩], int 0]) := by
  have := w_IEntities (l := [bG, bF]) (gap := 2) b_fits; rwa [entR_ok b_NormP (by omega), b_ents2] at this
theorem w_EntB1 : Fun Try.prog 8 [fnds [bG, bF], int 1] (tup [ents [⟨0, [[97]], [], [0]⟩, ⟨1, [[97]], [1], [1]⟩], int 0]) := by
  have := w_IEntities (l := [bG, bF]) (gap := 1) b_fits; rwa [entR_ok b_NormP (by omega), b_ents1] at this

set_option maxRecDepth 20000 in
theorem w_awake15   : Fun Try.prog 6 [] (bool true) := by
 refine Fun.of Try.func6 rfl rfl (by exact Nat.le_of_ble_eq_true rfl) fun M0 w0 => ?_
 refine Tr.seq (Tr.reg0 ?_)
 refine Ch.as rfl rfl rfl rfl rfl ?_
 refine Ch.nil (Fin.go (Tr.seq (Tr.regT ?_)))
 refine TO.oo rfl rfl rfl (ok_build (rows := [(0, [_]), (1, [_]), (2, [_]), (3, [_]), (4, [_]), (5, [_]), (6, [_]), (8, [_])]) rfl bl45 zo45 ⟨⟨rfl, (VL.le (vl rfl) (one_cellsP _))⟩, ⟨⟨rfl, (VL.le (vl rfl) (one_cellsP _))⟩, ⟨⟨rfl, (VL.le (vl rfl) (one_cellsP _))⟩, ⟨⟨rfl, (VL.le (vl rfl) (one_cellsP _))⟩, ⟨⟨rfl, (VL.le (vl rfl) (one_cellsP _))⟩, ⟨⟨rfl, (VL.le (vl rfl) (one_cellsP _))⟩, ⟨⟨rfl, (VL.le (vl rfl) (one_cellsP _))⟩, ⟨⟨rfl, (VL.le (vl rfl) (one_cellsP _))⟩, trivial⟩⟩⟩⟩⟩⟩⟩⟩ rfl) ?_
 refine TO.alloc rfl rfl (by decide) rfl z45 zo45 (fun b1 => ?_)
 refine TO.store_all 0 rfl rfl rfl (vl rfl) (VL.le (vl rfl) (agg_cellsP _)) rfl sz45 rfl rfl ?_
 refine TO.freeze 0 1 rfl rfl ?_
 refine TO.nil (Fin.go (Tr.seq (Tr.regT ?_)))
 refine TO.oo rfl rfl rfl (ok_loadA rfl agg45 sz45 (vl rfl) rfl rfl) ?_
 refine TO.alloc rfl rfl (by decide) rfl z45 zo45 (fun b2 => ?_)
 refine TO.store_all 0 rfl rfl rfl (vl rfl) (VL.le (vl rfl) (agg_cellsP _)) rfl sz45 rfl rfl ?_
 refine TO.nil (Fin.go (Tr.seq (Tr.regT ?_)))
 refine TO.oo rfl rfl rfl (okp_fieldAddr rfl fo45_2 (vl rfl)) ?_
 refine TO.ef0 0 rfl rfl (ef_store rfl rfl (vl rfl) (VL.le (vl rfl) (one_cellsP _)) sz3 rfl (by exact Nat.le_of_ble_eq_true rfl) rfl) ?_
 refine TO.oo rfl rfl rfl (okp_fieldAddr rfl fo45_3 (vl rfl)) ?_
 refine TO.ef0 0 rfl rfl (ef_store rfl rfl (vl rfl) (VL.le (vl rfl) (one_cellsP _)) sz3 rfl (by exact Nat.le_of_ble_eq_true rfl) rfl) ?_
 refine TO.nil (Fin.go (Tr.seq (Tr.reg0 ?_)))
 refine Ch.oo rfl rfl rfl (ok_loadA rfl agg45 sz45 (vl rfl) rfl rfl) ?_
 refine Ch.oo rfl rfl rfl (ok_rd 0 rfl (rd_loadA rfl agg45 sz45 (vl rfl) rfl rfl)) ?_
 refine Ch.oo rfl rfl rfl (ok_buildSlice (xs := [.tmp 14, .tmp 15]) (rows := [_, _]) rfl rfl Try.underlying22 sz45 z45 rfl (by decide) ⟨⟨(by exact rfl), (VL.le (vl rfl) (agg_cellsP _))⟩, ⟨⟨(by exact rfl), (VL.le (vl rfl) (agg_cellsP _))⟩, trivial⟩⟩ (by decide)) ?_
 refine Ch.oo rfl rfl rfl (ok_call rfl (w_NormB) ⟨⟨_, rfl, full_le _ _⟩, trivial⟩) ?_
 refine Ch.mv rfl rfl rfl rfl rfl ?_
 refine Ch.oo rfl rfl rfl (ok_extract rfl (vl rfl) rfl) ?_
 refine Ch.oo rfl rfl rfl (ok_extract rfl (vl rfl) rfl) ?_
 refine Ch.as rfl rfl rfl rfl rfl ?_
 refine Ch.as rfl rfl rfl rfl rfl ?_
 refine Ch.nil (Fin.go ?_)
 refine Tr.drop 0 ?_
 refine Tr.w1 3 rfl ?_
 refine Tr.seq (Tr.reg0 ?_)
 refine Ch.mv rfl rfl rfl rfl rfl ?_
 refine Ch.oo rfl rfl rfl (ok_call rfl (w_EntB2) ⟨ke rfl, ke rfl, trivial⟩) ?_
 refine Ch.mv rfl rfl rfl rfl rfl ?_
 refine Ch.oo rfl rfl rfl (ok_extract rfl (vl rfl) rfl) ?_
 refine Ch.oo rfl rfl rfl (ok_extract rfl (vl rfl) rfl) ?_
 refine Ch.as rfl rfl rfl rfl rfl ?_
 refine Ch.as rfl rfl rfl rfl rfl ?_
 refine Ch.nil (Fin.go (Tr.seq (Tr.reg0 ?_)))
 refine Ch.mv rfl rfl rfl rfl rfl ?_
 refine Ch.oo rfl rfl rfl (ok_call rfl (w_EntB1) ⟨ke rfl, ke rfl, trivial⟩) ?_
 refine Ch.mv rfl rfl rfl rfl rfl ?_
 refine Ch.oo rfl rfl rfl (ok_extract rfl (vl rfl) rfl) ?_
 refine Ch.oo rfl rfl rfl (ok_extract rfl (vl rfl) rfl) ?_
 refine Ch.as rfl rfl rfl rfl rfl ?_
 refine Ch.as rfl rfl rfl rfl rfl ?_
 refine Ch.nil (Fin.go ?_)
 refine Tr.w4 5 6 7 8 rfl rfl rfl rfl ?_
 refine Tr.seq (Tr.reg0 ?_)
 refine Ch.mv rfl rfl rfl rfl rfl ?_
 refine Ch.oo rfl rfl rfl (ok_int rfl (vl rfl) (vl rfl) rfl) ?_
 refine Ch.mv rfl rfl rfl rfl rfl ?_
 refine Ch.cs 32 rfl (fun h1 q1 => ?_) (fun h1 q1 => ?_)
 ·
  refine Ch.ym h1 rfl rfl rfl rfl rfl rfl rfl ?_
  refine Ch.y h1 rfl rfl rfl rfl rfl (ok_int rfl (vl rfl) (vl rfl) rfl) ?_
  refine Ch.oo rfl rfl rfl (ok_pick_t rfl (vl rfl) h1 (vl rfl)) ?_
  refine Ch.mv rfl rfl rfl rfl rfl ?_
  refine Ch.cs 36 rfl (fun h2 q2 => ?_) (fun h2 q2 => ?_)
  ·
   refine Ch.ym h2 rfl rfl rfl rfl rfl rfl rfl ?_
   first
    | refine Ch.y h2 rfl rfl rfl rfl rfl (ok_lenm rfl Try.underlying23 (vl rfl)) ?_
    | refine Ch.y h2 rfl rfl rfl rfl rfl (ok_len rfl Try.underlying23 (vl rfl)) ?_
   refine Ch.y h2 rfl rfl rfl rfl rfl (ok_int rfl (vl rfl) (vl rfl) rfl) ?_
   refine Ch.oo rfl rfl rfl (ok_pick_t rfl (vl rfl) h2 (vl rfl)) ?_
   refine Ch.mv rfl rfl rfl rfl rfl ?_
   refine Ch.cs 41 rfl (fun h3 q3 => ?_) (fun h3 q3 => ?_)
   ·
    refine Ch.ym h3 rfl rfl rfl rfl rfl rfl rfl ?_
    first
     | refine Ch.y h3 rfl rfl rfl rfl rfl (ok_lenm rfl Try.underlying23 (vl rfl)) ?_
     | refine Ch.y h3 rfl rfl rfl rfl rfl (ok_len rfl Try.underlying23 (vl rfl)) ?_
    refine Ch.y h3 rfl rfl rfl rfl rfl (ok_int rfl (vl rfl) (vl rfl) rfl) ?_
    refine Ch.oo rfl rfl rfl (ok_pick_t rfl (vl rfl) h3 (vl rfl)) ?_
    refine Ch.mv rfl rfl rfl rfl rfl ?_
    refine Ch.cs 46 rfl (fun h4 q4 => ?_) (fun h4 q4 => ?_)
    ·
     refine Ch.ym h4 rfl rfl rfl rfl rfl rfl rfl ?_
     refine Ch.y h4 rfl rfl rfl rfl rfl (ok_call rfl (w_IOf) ⟨ke rfl, ke rfl, trivial⟩) ?_
     refine Ch.y h4 rfl rfl rfl rfl rfl (ok_int rfl (vl rfl) (vl rfl) rfl) ?_
     refine Ch.oo rfl rfl rfl (ok_pick_t rfl (vl rfl) h4 (vl rfl)) ?_
     refine Ch.as rfl rfl rfl rfl rfl ?_
     refine Ch.nil (Fin.go ?_)
     refine Tr.w1 0 rfl ?_
     refine Tr.ret ?_
     refine Fin.ret1 rfl (OutW.bse _ _) rfl ?_
     · first | exact bool_eq (by decide +kernel) | exact Pr.le_refl _
    ·
     exfalso; simp at h4
   ·
    exfalso; simp at h3
  ·
   exfalso; simp at h2
 ·
  exfalso; simp at h1
end Go.Proofs.Ytgdlhajfajddiaa
namespace Go.Proofs.Ytgdlhajfajddiaa
open Go Go.RowKit Cp Go.ChangeShapes Go.WideShapes Go.ChangeAt

theorem w_IEntOK {l : List Fnd} {gap : Int} (hN : NormP l) (hg : 0 ≤ gap ∧ gap ≤ 4000) (hf : ∀ f ∈ l, f.fits) : Fun Try.prog 8 [fnds l, int gap] (tup [ents (entsF l gap), int 0]) := by
  have := w_IEntities (l := l) (gap := gap) hf; rwa [entR_ok hN hg] at this
theorem tm20 {a k : Int} (h0 : 0 ≤ a) : a.tmod k = a % k := Int.tmod_eq_emod_of_nonneg h0
section
variable {l : List Fnd} {gap : Int}
end

end Go.Proofs.Ytgdlhajfajddiaa
namespace Go.Proofs.Ytgdlhajfajddiaa
open Go Go.RowKit Cp Go.ChangeShapes Go.WideShapes Go.ChangeAt

theorem part_count {α : Type} {E : List α} {f : α → List Int} {i k : Nat} {x : α} {v : Int} (hx : E[i]? = some x) : ((E.take i).flatMap f ++ (f x).take k).count v ≤ (E.flatMap f).count v := by
  have hi := lt_of_atX hx
  rw [List.getElem?_eq_getElem hi] at hx
  cases hx
  conv => rhs; rw [← List.take_append_drop i E, List.drop_eq_getElem_cons hi]
  rw [List.flatMap_append, List.flatMap_cons, List.count_append, List.count_append, List.count_append]
  have := (List.take_sublist k (f E[i])).count_le v
  omega
theorem flat_snoc {α : Type} {E : List α} {f : α → List Int} {i : Nat} {x : α} (hx : E[i]? = some x) : (E.take (i + 1)).flatMap f = (E.take i).flatMap f ++ f x := by
  rw [List.take_add_one, hx, List.flatMap_append]; simp
theorem take_snoc {p l : List Int} {k : Nat} {v : Int} (hx : l[k]? = some v) : p ++ l.take (k + 1) = p ++ l.take k ++ [v] := by
  rw [List.take_add_one, hx, ← List.append_assoc]; rfl
theorem cntL_store {n j : Nat} {p : List Int} (h : j < n) : (arr (cntL n p)).take (0 + ((j : Nat) : Int).toNat * 1) ++ [int (((p.count ((j : Nat) : Int) : Nat) : Int) + 1)] ++ (arr (cntL n p)).drop (0 + ((j : Nat) : Int).toNat * 1 + 1) = arr (cntL n (p ++ [((j : Nat) : Int)])) := by
  rw [Int.toNat_natCast, Nat.zero_add, Nat.mul_one, arr_set (by rw [cntL_len]; exact h), cntL_add h]
theorem ents_lt {l : List Fnd} {gap : Int} {i : Nat} {p x : Ent} (h0 : 1 ≤ i) (hp : (entsF l gap)[i - 1]? = some p) (hx : (entsF l gap)[i]? = some x) : p.num < x.num := by
  unfold entsF entsK at hp hx
  rw [List.getElem?_map, Option.map_eq_some_iff] at hp hx
  obtain ⟨a, ha, rfl⟩ := hp
  obtain ⟨b, hb, rfl⟩ := hx
  rw [ent_num, ent_num]
  have h := rootsK_asc (rootS l gap) l.length
  rw [List.pairwise_iff_getElem] at h
  have hal := lt_of_atX ha
  have hbl := lt_of_atX hb
  have := h (i - 1) i hal hbl (by omega)
  rw [List.getElem?_eq_getElem hal] at ha
  rw [List.getElem?_eq_getElem hbl] at hb
  simp only [Option.some.injEq] at ha hb
  omega
theorem mach_of {l : List Fnd} {gap : Int} {r j : Nat} {x : Ent} {g : Fnd} (hx : x = entK l (rootS l gap) r l.length) (hj : l[j]? = some g) (hr : rootS l gap j = r) (hm : ¬ g.machine = 0) : x.machines = [g.machine] := by
  rw [hx]
  rcases ent_mach (l := l) (gap := gap) (r := r) (Nat.le_refl _) with ⟨_, h2⟩ | h
  · exact absurd (h2 j g (lt_of_atX hj) hr hj) hm
  · rw [h, ← hr, root_mOf, mOf_own hj hm]
theorem mach_len {l : List Fnd} {gap : Int} {r : Nat} {x : Ent} (hx : x = entK l (rootS l gap) r l.length) : x.machines.length ≤ 1 := by
  rw [hx]
  rcases ent_mach (l := l) (gap := gap) (r := r) (Nat.le_refl _) with ⟨h, _⟩ | h <;> rw [h] <;> simp

set_option maxRecDepth 20000 in
theorem w_IdentityParts {t : List Int} {a : Int} (ha : 0 ≤ a ∧ a < 256) : Fun Try.prog 4 [ints t, is (.int .u8 a)] (bool true) := by
 refine Fun.of Try.func4 rfl rfl (by exact Nat.le_of_ble_eq_true rfl) fun M0 w0 => ?_
 have t1 := tm20 (k := 8) ha.1
 refine Tr.seq (Tr.reg0 ?_)
 refine Ch.as rfl rfl rfl rfl rfl ?_
 refine Ch.nil (Fin.go (Tr.seq (Tr.seq (Tr.reg0 ?_))))
 refine Ch.mv rfl rfl rfl rfl rfl ?_
 refine Ch.oo rfl rfl rfl (ok_call rfl (w_Light) ⟨ke rfl, trivial⟩) ?_
 refine Ch.oo rfl rfl rfl (ok_not rfl (vl rfl)) ?_
 refine Ch.nil (Fin.go ?_)
 refine Tr.cn rfl (fun h1 q1 => ?_) (fun h1 q1 => ?_)
 ·
  refine Tr.seq (Tr.reg0 ?_)
  refine Ch.oo rfl rfl rfl (ok_call rfl (w_awake15) trivial) ?_
  refine Ch.as rfl rfl rfl rfl rfl ?_
  refine Ch.nil (Fin.go (Tr.ret ?_))
  refine Fin.then_ret ?_
  refine Fin.ret1 rfl (OutW.bse _ _) rfl ?_
  · first | exact Pr.le_refl _ | (refine int_eq ?_; simp_all; done) | (refine bool_eq ?_; simp_all; done) | (refine bool_eq ?_; simp_all; omega) | (refine int_eq ?_; omega)
 ·
  have ht4 : t.length ≤ 400 := by simpa using h1
  have ht9 : t.length ≤ 1000000000 := by omega
  refine Tr.skip (Fin.go (Tr.seq (Tr.regT ?_)))
  refine TO.mv rfl rfl rfl rfl rfl ?_
  refine TO.pad ?_
  refine TO.efs 0 rfl rfl (by decide) (ef_call rfl rfl (by decide) rfl (w_Roll (l := t) ht9) ⟨ke rfl, trivial⟩) (fun v1 => ?_)
  refine TO.opn 20 0 _ rfl rfl (fun _ => rfl) (fun b1 => ?_)
  refine TO.as rfl rfl rfl rfl rfl ?_
  refine TO.nil (Fin.go (Tr.seq (Tr.regT ?_)))
  refine TO.mv rfl rfl rfl rfl rfl ?_
  refine TO.efc 0 rfl rfl (by decide) (ef_callc rfl rfl (by decide) rfl (w_Findings (m := 24) (by omega)) ⟨ke rfl, ke rfl, trivial⟩) ?_
  refine TO.ex 22 rfl (fun z1 => TO.fact 22 rfl fun hz1 => ?_)
  refine TO.as rfl rfl rfl rfl rfl ?_
  refine TO.nil ?_
  refine Fin.openD 0 rfl (fun s1 => ?_)
  refine Fin.go (Tr.seq (Tr.reg0 ?_))
  refine Ch.mv rfl rfl rfl rfl rfl ?_
  refine Ch.mv rfl rfl rfl rfl rfl ?_
  first
   | refine Ch.oo rfl rfl rfl (ok_convI rfl Try.underlying5 Try.underlying3 (vl rfl) (by unfold InI; omega)) ?_
   | refine Ch.oo rfl rfl rfl (ok_conv rfl Try.underlying5 Try.underlying3 (vl rfl)) ?_
  refine Ch.oo rfl rfl rfl (ok_rem rfl (vl rfl) (vl rfl) (by omega)) ?_
  refine Ch.oo rfl rfl rfl (ok_call rfl (w_IEntOK (gap := (a % 8)) hz1.norm ⟨by omega, by omega⟩ hz1.fits) ⟨ke rfl, ⟨_, rfl, int_eq t1⟩, trivial⟩) ?_
  refine Ch.mv rfl rfl rfl rfl rfl ?_
  refine Ch.oo rfl rfl rfl (ok_extract rfl (vl rfl) rfl) ?_
  refine Ch.oo rfl rfl rfl (ok_extract rfl (vl rfl) rfl) ?_
  refine Ch.as rfl rfl rfl rfl rfl ?_
  refine Ch.as rfl rfl rfl rfl rfl ?_
  refine Ch.nil (Fin.go ?_)
  refine Tr.w3 6 7 8 rfl rfl rfl ?_
  refine Tr.seq (Tr.seq (Tr.reg0 ?_))
  refine Ch.mv rfl rfl rfl rfl rfl ?_
  refine Ch.oo rfl rfl rfl (ok_int rfl (vl rfl) (vl rfl) rfl) ?_
  refine Ch.nil (Fin.go ?_)
  refine Tr.cn rfl (fun h2 q2 => ?_) (fun h2 q2 => ?_)
  ·
   exfalso; simp at h2
  ·
   have hz24 := hz1.len
   refine Tr.skip (Fin.go (Tr.seq (Tr.regT ?_)))
   refine TO.mv rfl rfl rfl rfl rfl ?_
   first
    | refine TO.oo rfl rfl rfl (ok_lenm rfl Try.underlying22 (vl rfl)) ?_
    | refine TO.oo rfl rfl rfl (ok_len rfl Try.underlying22 (vl rfl)) ?_
   refine TO.mkslice rfl rfl (by decide) rfl Try.underlying26 sz3 by3 z3 rfl (vl rfl) (vl rfl) (by unfold maxLen; omega) (by omega) (fun b2 => ?_)
   refine TO.as rfl rfl rfl rfl rfl ?_
   refine TO.nil (Fin.go (Tr.seq (Tr.seq (Tr.reg0 ?_))))
   refine Ch.as rfl rfl rfl rfl rfl ?_
   refine Ch.nil (Fin.go (Tr.block ?_))
   refine Tr.loopR [(6, _), (7, _), (9, _)] ⟨ke rfl, ke rfl, ke rfl, trivial⟩ (fun i : Nat => [(10, int ((i : Nat) : Int))]) (fun i : Nat => Hp M0 w0 noS ([cellsRes true b2 3 (arr (cntL z1.length (((entsF z1 (a % 8)).take i).flatMap (·.fnds)))), diceS b1 s1])) (fun i : Nat => i ≤ ((entsF z1 (a % 8))).length) (fun i : Nat => ((entsF z1 (a % 8))).length - i) 0 (Nat.zero_le _) ⟨ke rfl, trivial⟩ ((by rw [arr_rep, List.take_zero, List.flatMap_nil, cntL_nil]; exact fun _ _ h => h)) ?_
   rintro i hle_i
   refine Tr.seq (Tr.seq (Tr.reg0 ?_))
   refine Ch.mv rfl rfl rfl rfl rfl ?_
   refine Ch.mv rfl rfl rfl rfl rfl ?_
   first
    | refine Ch.oo rfl rfl rfl (ok_lenm rfl Try.underlying23 (vl rfl)) ?_
    | refine Ch.oo rfl rfl rfl (ok_len rfl Try.underlying23 (vl rfl)) ?_
   refine Ch.oo rfl rfl rfl (ok_int rfl (vl rfl) (vl rfl) rfl) ?_
   refine Ch.nil (Fin.go ?_)
   refine Tr.cn rfl (fun h3 q3 => ?_) (fun h3 q3 => ?_)
   ·
    have hk_i : i < ((entsF z1 (a % 8))).length := lt_of_dec h3
    obtain ⟨x, hx_i⟩ := at_ hk_i
    obtain ⟨r, hr1, hr2, hxe⟩ := ents_of (List.mem_of_getElem? hx_i)
    have hhd : x.fnds[0]? = some ((r : Nat) : Int) := by rw [hxe]; exact fnds_head (rootS_le _ _) hr2 (Nat.le_refl _) hr1
    have hfl := lt_of_atX hhd
    have hnum : x.num = ((r : Nat) : Int) := by rw [hxe, ent_num]
    have hml := mach_len hxe
    have hfl2 : x.fnds.length ≤ z1.length := by rw [hxe]; exact (ent_lens _ _ _ _).1
    have hEl : (entsF z1 (a % 8)).length ≤ z1.length := by unfold entsF; rw [entsK_len]; exact rootsK_le _ _
    refine Tr.skip (Fin.go (Tr.seq (Tr.block (Tr.seq (Tr.seq ?_)))))
    refine Tr.reg1 mixed (by kernel_rfl) ?_
    refine Ch.mv rfl rfl rfl rfl rfl ?_
    refine Ch.mv rfl rfl rfl rfl rfl ?_
    refine Ch.oo rfl rfl rfl (ok_indexAddr rfl Try.underlying23 sz28 (vl rfl) (vl rfl) (by omega) (row_at hx_i)) ?_
    refine Ch.oo rfl rfl rfl (ok_fieldAddr rfl fo28_3 (vl rfl) rfl) ?_
    refine Ch.oo rfl rfl rfl (ok_load1 rfl one26 (vl rfl)) ?_
    first
     | refine Ch.oo rfl rfl rfl (ok_lenm rfl Try.underlying26 (vl rfl)) ?_
     | refine Ch.oo rfl rfl rfl (ok_len rfl Try.underlying26 (vl rfl)) ?_
    refine Ch.oo rfl rfl rfl (ok_int rfl (vl rfl) (vl rfl) rfl) ?_
    refine Ch.mv rfl rfl rfl rfl rfl ?_
    refine Ch.cs 49 rfl (fun h4 q4 => ?_) (fun h4 q4 => ?_)
    ·
     exfalso; omega
    ·
     refine Ch.ym h4 rfl rfl rfl rfl rfl rfl rfl ?_
     refine Ch.ym h4 rfl rfl rfl rfl rfl rfl rfl ?_
     refine Ch.y h4 rfl rfl rfl rfl rfl (ok_indexAddr rfl Try.underlying23 sz28 (vl rfl) (vl rfl) (by omega) (row_at hx_i)) ?_
     refine Ch.y h4 rfl rfl rfl rfl rfl (ok_fieldAddr rfl fo28_3 (vl rfl) rfl) ?_
     refine Ch.y h4 rfl rfl rfl rfl rfl (ok_load1 rfl one26 (vl rfl)) ?_
     refine Ch.y h4 rfl rfl rfl rfl rfl (ok_indexAddr rfl Try.underlying26 sz3 (vl rfl) (vl rfl) (by omega) (row_atI (i := 0) hhd)) ?_
     refine Ch.y h4 rfl rfl rfl rfl rfl (ok_load1 rfl one3 (vl rfl)) ?_
     refine Ch.ym h4 rfl rfl rfl rfl rfl rfl rfl ?_
     refine Ch.ym h4 rfl rfl rfl rfl rfl rfl rfl ?_
     refine Ch.y h4 rfl rfl rfl rfl rfl (ok_indexAddr rfl Try.underlying23 sz28 (vl rfl) (vl rfl) (by omega) (row_at hx_i)) ?_
     refine Ch.y h4 rfl rfl rfl rfl rfl (ok_fieldAddr rfl fo28_0 (vl rfl) rfl) ?_
     refine Ch.y h4 rfl rfl rfl rfl rfl (ok_load1 rfl one3 (vl rfl)) ?_
     refine Ch.y h4 rfl rfl rfl rfl rfl (ok_int rfl (vl rfl) (vl rfl) rfl) ?_
     refine Ch.oo rfl rfl rfl (ok_pick_f rfl (vl rfl) h4 (vl rfl)) ?_
     refine Ch.mv rfl rfl rfl rfl rfl ?_
     refine Ch.cs 64 rfl (fun h5 q5 => ?_) (fun h5 q5 => ?_)
     ·
      exfalso; omega
     ·
      refine Ch.ym h5 rfl rfl rfl rfl rfl rfl rfl ?_
      refine Ch.ym h5 rfl rfl rfl rfl rfl rfl rfl ?_
      refine Ch.y h5 rfl rfl rfl rfl rfl (ok_indexAddr rfl Try.underlying23 sz28 (vl rfl) (vl rfl) (by omega) (row_at hx_i)) ?_
      refine Ch.y h5 rfl rfl rfl rfl rfl (ok_fieldAddr rfl fo28_2 (vl rfl) rfl) ?_
      refine Ch.y h5 rfl rfl rfl rfl rfl (ok_load1 rfl one26 (vl rfl)) ?_
      first
       | refine Ch.y h5 rfl rfl rfl rfl rfl (ok_lenm rfl Try.underlying26 (vl rfl)) ?_
       | refine Ch.y h5 rfl rfl rfl rfl rfl (ok_len rfl Try.underlying26 (vl rfl)) ?_
      refine Ch.y h5 rfl rfl rfl rfl rfl (ok_int rfl (vl rfl) (vl rfl) rfl) ?_
      refine Ch.oo rfl rfl rfl (ok_pick_f rfl (vl rfl) h5 (vl rfl)) ?_
      refine Ch.mv rfl rfl rfl rfl rfl ?_
      refine Ch.cs 73 rfl (fun h6 q6 => ?_) (fun h6 q6 => ?_)
      ·
       exfalso; omega
      ·
       refine Ch.ym h6 rfl rfl rfl rfl rfl rfl rfl ?_
       refine Ch.y h6 rfl rfl rfl rfl rfl (ok_int rfl (vl rfl) (vl rfl) rfl) ?_
       refine Ch.ym h6 rfl rfl rfl rfl rfl rfl rfl ?_
       refine Ch.cs 76 rfl (fun h7 q7 => ?_) (fun h7 q7 => ?_)
       ·
        obtain ⟨p, hp⟩ := at_ (l := (entsF z1 (a % 8))) (k := i - 1) (by omega)
        have hpn := ents_lt (by omega) hp hx_i
        have hpI : (entsF z1 (a % 8))[(((i : Nat) : Int) - 1).toNat]? = some p := by rw [show (((i : Nat) : Int) - 1).toNat = i - 1 by omega]; exact hp
        refine Ch.ym h7 rfl rfl rfl rfl rfl rfl rfl ?_
        refine Ch.ym h7 rfl rfl rfl rfl rfl rfl rfl ?_
        first
         | (refine Ch.y h7 rfl rfl rfl rfl rfl (ok_sub rfl (vl rfl) (vl rfl) ?hin) ?_; case hin => unfold InI; omega)
         | refine Ch.y h7 rfl rfl rfl rfl rfl (ok_int rfl (vl rfl) (vl rfl) rfl) ?_
        refine Ch.y h7 rfl rfl rfl rfl rfl (ok_indexAddr rfl Try.underlying23 sz28 (vl rfl) (vl rfl) (by omega) (row_atI hpI)) ?_
        refine Ch.y h7 rfl rfl rfl rfl rfl (ok_fieldAddr rfl fo28_0 (vl rfl) rfl) ?_
        refine Ch.y h7 rfl rfl rfl rfl rfl (ok_load1 rfl one3 (vl rfl)) ?_
        refine Ch.ym h7 rfl rfl rfl rfl rfl rfl rfl ?_
        refine Ch.ym h7 rfl rfl rfl rfl rfl rfl rfl ?_
        refine Ch.y h7 rfl rfl rfl rfl rfl (ok_indexAddr rfl Try.underlying23 sz28 (vl rfl) (vl rfl) (by omega) (row_at hx_i)) ?_
        refine Ch.y h7 rfl rfl rfl rfl rfl (ok_fieldAddr rfl fo28_0 (vl rfl) rfl) ?_
        refine Ch.y h7 rfl rfl rfl rfl rfl (ok_load1 rfl one3 (vl rfl)) ?_
        refine Ch.y h7 rfl rfl rfl rfl rfl (ok_int rfl (vl rfl) (vl rfl) rfl) ?_
        refine Ch.y h6 rfl rfl rfl rfl rfl (ok_pick_t rfl (vl rfl) h7 (vl rfl)) ?_
        refine Ch.oo rfl rfl rfl (ok_pick_f rfl (vl rfl) h6 (vl rfl)) ?_
        refine Ch.nil (Fin.go ?_)
        refine Tr.w5 6 7 9 10 90 rfl rfl rfl rfl rfl ?_
        refine Tr.cn rfl (fun h8 q8 => ?_) (fun h8 q8 => ?_)
        ·
         exfalso; omega
        ·
         refine Tr.skip (Fin.go (Tr.seq (Tr.reg0 ?_)))
         refine Ch.as rfl rfl rfl rfl rfl ?_
         refine Ch.nil (Fin.go (Tr.block ?_))
         refine Tr.loopR [(6, _), (7, _), (9, _), (10, _)] ⟨ke rfl, ke rfl, ke rfl, ke rfl, trivial⟩ (fun k : Nat => [(11, int ((k : Nat) : Int))]) (fun k : Nat => Hp M0 w0 noS ([cellsRes true b2 3 (arr (cntL z1.length (((entsF z1 (a % 8)).take i).flatMap (·.fnds) ++ x.fnds.take k))), diceS b1 s1])) (fun k : Nat => k ≤ (x.fnds).length) (fun k : Nat => (x.fnds).length - k) 0 (Nat.zero_le _) ⟨ke rfl, trivial⟩ ((by rw [List.take_zero, List.append_nil]; exact fun _ _ h => h)) ?_
         rintro k hle_k
         refine Tr.seq (Tr.seq (Tr.reg0 ?_))
         iterate 3 refine Ch.mv rfl rfl rfl rfl rfl ?_
         refine Ch.oo rfl rfl rfl (ok_indexAddr rfl Try.underlying23 sz28 (vl rfl) (vl rfl) (by omega) (row_at hx_i)) ?_
         refine Ch.oo rfl rfl rfl (ok_fieldAddr rfl fo28_3 (vl rfl) rfl) ?_
         refine Ch.oo rfl rfl rfl (ok_load1 rfl one26 (vl rfl)) ?_
         first
          | refine Ch.oo rfl rfl rfl (ok_lenm rfl Try.underlying26 (vl rfl)) ?_
          | refine Ch.oo rfl rfl rfl (ok_len rfl Try.underlying26 (vl rfl)) ?_
         refine Ch.oo rfl rfl rfl (ok_int rfl (vl rfl) (vl rfl) rfl) ?_
         refine Ch.nil (Fin.go ?_)
         refine Tr.cn rfl (fun h9 q9 => ?_) (fun h9 q9 => ?_)
         ·
          have hk_k : k < (x.fnds).length := lt_of_dec h9
          obtain ⟨v, hx_k⟩ := at_ hk_k
          obtain ⟨j, hj, hjr, hvj⟩ := (fnds_mem (root := rootS z1 (a % 8)) (r := r) (Nat.le_refl _)).1 (hxe ▸ List.mem_of_getElem? hx_k)
          subst hvj
          obtain ⟨g, hgj⟩ := at_ hj
          have hof : ofE (entsF z1 (a % 8)) ((j : Nat) : Int) = ((r : Nat) : Int) := by rw [of_root hj, hjr]
          have hcb := part_count (f := fun e : Ent => e.fnds) (k := k) (v := ((j : Nat) : Int)) hx_i
          rw [all_count hj] at hcb
          refine Tr.skip (Fin.go (Tr.seq (Tr.block (Tr.seq (Tr.reg0 ?_)))))
          refine Ch.mv rfl rfl rfl rfl rfl ?_
          refine Ch.mv rfl rfl rfl rfl rfl ?_
          refine Ch.oo rfl rfl rfl (ok_indexAddr rfl Try.underlying23 sz28 (vl rfl) (vl rfl) (by omega) (row_at hx_i)) ?_
          refine Ch.oo rfl rfl rfl (ok_fieldAddr rfl fo28_3 (vl rfl) rfl) ?_
          refine Ch.oo rfl rfl rfl (ok_load1 rfl one26 (vl rfl)) ?_
          refine Ch.mv rfl rfl rfl rfl rfl ?_
          refine Ch.oo rfl rfl rfl (ok_indexAddr rfl Try.underlying26 sz3 (vl rfl) (vl rfl) (by omega) (row_at hx_k)) ?_
          refine Ch.oo rfl rfl rfl (ok_load1 rfl one3 (vl rfl)) ?_
          refine Ch.as rfl rfl rfl rfl rfl ?_
          refine Ch.nil (Fin.go ?_)
          refine Tr.w6 6 7 9 10 11 12 rfl rfl rfl rfl rfl rfl ?_
          refine Tr.seq (Tr.seq ?_)
          refine Tr.reg1 mixed (by kernel_rfl) ?_
          refine Ch.mv rfl rfl rfl rfl rfl ?_
          refine Ch.oo rfl rfl rfl (ok_int rfl (vl rfl) (vl rfl) rfl) ?_
          refine Ch.mv rfl rfl rfl rfl rfl ?_
          refine Ch.cs 111 rfl (fun h10 q10 => ?_) (fun h10 q10 => ?_)
          ·
           exfalso; omega
          ·
           refine Ch.ym h10 rfl rfl rfl rfl rfl rfl rfl ?_
           refine Ch.ym h10 rfl rfl rfl rfl rfl rfl rfl ?_
           first
            | refine Ch.y h10 rfl rfl rfl rfl rfl (ok_lenm rfl Try.underlying22 (vl rfl)) ?_
            | refine Ch.y h10 rfl rfl rfl rfl rfl (ok_len rfl Try.underlying22 (vl rfl)) ?_
           refine Ch.y h10 rfl rfl rfl rfl rfl (ok_int rfl (vl rfl) (vl rfl) rfl) ?_
           refine Ch.oo rfl rfl rfl (ok_pick_f rfl (vl rfl) h10 (vl rfl)) ?_
           refine Ch.mv rfl rfl rfl rfl rfl ?_
           refine Ch.cs 117 rfl (fun h11 q11 => ?_) (fun h11 q11 => ?_)
           ·
            exfalso; omega
           ·
            refine Ch.ym h11 rfl rfl rfl rfl rfl rfl rfl ?_
            refine Ch.ym h11 rfl rfl rfl rfl rfl rfl rfl ?_
            refine Ch.y h11 rfl rfl rfl rfl rfl (ok_indexAddr rfl Try.underlying22 sz45 (vl rfl) (vl rfl) (by omega) (row_at hgj)) ?_
            refine Ch.y h11 rfl rfl rfl rfl rfl (ok_fieldAddr rfl fo45_2 (vl rfl) rfl) ?_
            refine Ch.y h11 rfl rfl rfl rfl rfl (ok_load1 rfl one3 (vl rfl)) ?_
            refine Ch.y h11 rfl rfl rfl rfl rfl (ok_int rfl (vl rfl) (vl rfl) rfl) ?_
            refine Ch.ym h11 rfl rfl rfl rfl rfl rfl rfl ?_
            refine Ch.cs 124 rfl (fun h12 q12 => ?_) (fun h12 q12 => ?_)
            ·
             have hmm := mach_of hxe hgj hjr q12
             refine Ch.ym h12 rfl rfl rfl rfl rfl rfl rfl ?_
             refine Ch.ym h12 rfl rfl rfl rfl rfl rfl rfl ?_
             refine Ch.y h12 rfl rfl rfl rfl rfl (ok_indexAddr rfl Try.underlying23 sz28 (vl rfl) (vl rfl) (by omega) (row_at hx_i)) ?_
             refine Ch.y h12 rfl rfl rfl rfl rfl (ok_fieldAddr rfl fo28_2 (vl rfl) rfl) ?_
             refine Ch.y h12 rfl rfl rfl rfl rfl (ok_load1 rfl one26 (vl rfl)) ?_
             first
              | refine Ch.y h12 rfl rfl rfl rfl rfl (ok_lenm rfl Try.underlying26 (vl rfl)) ?_
              | refine Ch.y h12 rfl rfl rfl rfl rfl (ok_len rfl Try.underlying26 (vl rfl)) ?_
             refine Ch.y h12 rfl rfl rfl rfl rfl (ok_int rfl (vl rfl) (vl rfl) rfl) ?_
             refine Ch.ym h12 rfl rfl rfl rfl rfl rfl rfl ?_
             refine Ch.cs 132 rfl (fun h13 q13 => ?_) (fun h13 q13 => ?_)
             ·
              exfalso; rw [hmm] at q13; simp at q13
             ·
              refine Ch.ym h13 rfl rfl rfl rfl rfl rfl rfl ?_
              refine Ch.ym h13 rfl rfl rfl rfl rfl rfl rfl ?_
              refine Ch.y h13 rfl rfl rfl rfl rfl (ok_indexAddr rfl Try.underlying23 sz28 (vl rfl) (vl rfl) (by omega) (row_at hx_i)) ?_
              refine Ch.y h13 rfl rfl rfl rfl rfl (ok_fieldAddr rfl fo28_2 (vl rfl) rfl) ?_
              refine Ch.y h13 rfl rfl rfl rfl rfl (ok_load1 rfl one26 (vl rfl)) ?_
              refine Ch.y h13 rfl rfl rfl rfl rfl (ok_indexAddr rfl Try.underlying26 sz3 (vl rfl) (vl rfl) (by omega) (row_atI (i := 0) (by rw [hmm]; rfl))) ?_
              refine Ch.y h13 rfl rfl rfl rfl rfl (ok_load1 rfl one3 (vl rfl)) ?_
              refine Ch.ym h13 rfl rfl rfl rfl rfl rfl rfl ?_
              refine Ch.ym h13 rfl rfl rfl rfl rfl rfl rfl ?_
              refine Ch.y h13 rfl rfl rfl rfl rfl (ok_indexAddr rfl Try.underlying22 sz45 (vl rfl) (vl rfl) (by omega) (row_at hgj)) ?_
              refine Ch.y h13 rfl rfl rfl rfl rfl (ok_fieldAddr rfl fo45_2 (vl rfl) rfl) ?_
              refine Ch.y h13 rfl rfl rfl rfl rfl (ok_load1 rfl one3 (vl rfl)) ?_
              refine Ch.y h13 rfl rfl rfl rfl rfl (ok_int rfl (vl rfl) (vl rfl) rfl) ?_
              refine Ch.y h12 rfl rfl rfl rfl rfl (ok_pick_f rfl (vl rfl) h13 (vl rfl)) ?_
              refine Ch.y h11 rfl rfl rfl rfl rfl (ok_pick_t rfl (vl rfl) h12 (vl rfl)) ?_
              refine Ch.oo rfl rfl rfl (ok_pick_f rfl (vl rfl) h11 (vl rfl)) ?_
              refine Ch.mv rfl rfl rfl rfl rfl ?_
              refine Ch.cs 149 rfl (fun h14 q14 => ?_) (fun h14 q14 => ?_)
              ·
               exfalso; simp at h14
              ·
               refine Ch.ym h14 rfl rfl rfl rfl rfl rfl rfl ?_
               refine Ch.ym h14 rfl rfl rfl rfl rfl rfl rfl ?_
               refine Ch.y h14 rfl rfl rfl rfl rfl (ok_call rfl (w_IOf) ⟨ke rfl, ke rfl, trivial⟩) ?_
               refine Ch.ym h14 rfl rfl rfl rfl rfl rfl rfl ?_
               refine Ch.ym h14 rfl rfl rfl rfl rfl rfl rfl ?_
               refine Ch.y h14 rfl rfl rfl rfl rfl (ok_indexAddr rfl Try.underlying23 sz28 (vl rfl) (vl rfl) (by omega) (row_at hx_i)) ?_
               refine Ch.y h14 rfl rfl rfl rfl rfl (ok_fieldAddr rfl fo28_0 (vl rfl) rfl) ?_
               refine Ch.y h14 rfl rfl rfl rfl rfl (ok_load1 rfl one3 (vl rfl)) ?_
               refine Ch.y h14 rfl rfl rfl rfl rfl (ok_int rfl (vl rfl) (vl rfl) rfl) ?_
               refine Ch.oo rfl rfl rfl (ok_pick_f rfl (vl rfl) h14 (vl rfl)) ?_
               refine Ch.nil (Fin.go ?_)
               refine Tr.w7 6 7 9 10 11 12 159 rfl rfl rfl rfl rfl rfl rfl ?_
               refine Tr.cn rfl (fun h15 q15 => ?_) (fun h15 q15 => ?_)
               ·
                exfalso; omega
               ·
                refine Tr.skip (Fin.go (Tr.regT ?_))
                refine TO.mv rfl rfl rfl rfl rfl ?_
                refine TO.mv rfl rfl rfl rfl rfl ?_
                refine TO.oo rfl rfl rfl (okp_indexSl rfl Try.underlying26 sz3 (vl rfl) (vl rfl) (by omega) (by omega)) ?_
                refine TO.rd 0 rfl rfl rfl (by decide) (rd_load1 rfl one3 (vl rfl) (arr_atO (by rw [Int.toNat_natCast]; exact cntL_at hj))) ?_
                first
                 | (refine TO.oo rfl rfl rfl (ok_add rfl (vl rfl) (vl rfl) ?hin) ?_; case hin => unfold InI; omega)
                 | refine TO.oo rfl rfl rfl (ok_int rfl (vl rfl) (vl rfl) rfl) ?_
                refine TO.oo rfl rfl rfl (okp_indexSl rfl Try.underlying26 sz3 (vl rfl) (vl rfl) (by omega) (by omega)) ?_
                refine TO.ef0 0 rfl rfl (ef_store rfl rfl (vl rfl) (VL.le (vl rfl) (one_cellsP _)) sz3 rfl (by unfold arr; rw [List.length_map, cntL_len]; omega) (cntL_store hj)) ?_
                refine TO.nil (Fin.block (Fin.go (Tr.reg0 ?_)))
                refine Ch.mv rfl rfl rfl rfl rfl ?_
                first
                 | (refine Ch.oo rfl rfl rfl (ok_add rfl (vl rfl) (vl rfl) ?hin) ?_; case hin => unfold InI; omega)
                 | refine Ch.oo rfl rfl rfl (ok_int rfl (vl rfl) (vl rfl) rfl) ?_
                refine Ch.as rfl rfl rfl rfl rfl ?_
                refine Ch.nil ?_
                exact Fin.fam (k + 1) ⟨hk_k, by omega⟩ ⟨⟨_, rfl, int_succ k⟩, ke rfl, ke rfl, ke rfl, ke rfl, trivial⟩ ((by rw [take_snoc hx_k]; exact fun _ _ h => h))
            ·
             iterate 8 refine Ch.nt h12 rfl rfl rfl rfl rfl ?_
             iterate 13 refine Ch.u rfl rfl rfl rfl rfl ?_
             refine Ch.nt h12 rfl rfl rfl rfl rfl ?_
             refine Ch.y h11 rfl rfl rfl rfl rfl (ok_pick_f rfl (vl rfl) h12 (vl rfl)) ?_
             refine Ch.oo rfl rfl rfl (ok_pick_f rfl (vl rfl) h11 (vl rfl)) ?_
             refine Ch.mv rfl rfl rfl rfl rfl ?_
             refine Ch.ym rfl rfl rfl rfl rfl rfl rfl rfl ?_
             refine Ch.ym rfl rfl rfl rfl rfl rfl rfl rfl ?_
             refine Ch.y rfl rfl rfl rfl rfl rfl (ok_call rfl (w_IOf) ⟨ke rfl, ke rfl, trivial⟩) ?_
             refine Ch.ym rfl rfl rfl rfl rfl rfl rfl rfl ?_
             refine Ch.ym rfl rfl rfl rfl rfl rfl rfl rfl ?_
             refine Ch.y rfl rfl rfl rfl rfl rfl (ok_indexAddr rfl Try.underlying23 sz28 (vl rfl) (vl rfl) (by omega) (row_at hx_i)) ?_
             refine Ch.y rfl rfl rfl rfl rfl rfl (ok_fieldAddr rfl fo28_0 (vl rfl) rfl) ?_
             refine Ch.y rfl rfl rfl rfl rfl rfl (ok_load1 rfl one3 (vl rfl)) ?_
             refine Ch.y rfl rfl rfl rfl rfl rfl (ok_int rfl (vl rfl) (vl rfl) rfl) ?_
             refine Ch.oo rfl rfl rfl (ok_pick_f rfl (vl rfl) rfl (vl rfl)) ?_
             refine Ch.nil (Fin.go ?_)
             refine Tr.w7 6 7 9 10 11 12 159 rfl rfl rfl rfl rfl rfl rfl ?_
             refine Tr.cn rfl (fun h16 q16 => ?_) (fun h16 q16 => ?_)
             ·
              exfalso; omega
             ·
              refine Tr.skip (Fin.go (Tr.regT ?_))
              refine TO.mv rfl rfl rfl rfl rfl ?_
              refine TO.mv rfl rfl rfl rfl rfl ?_
              refine TO.oo rfl rfl rfl (okp_indexSl rfl Try.underlying26 sz3 (vl rfl) (vl rfl) (by omega) (by omega)) ?_
              refine TO.rd 0 rfl rfl rfl (by decide) (rd_load1 rfl one3 (vl rfl) (arr_atO (by rw [Int.toNat_natCast]; exact cntL_at hj))) ?_
              first
               | (refine TO.oo rfl rfl rfl (ok_add rfl (vl rfl) (vl rfl) ?hin) ?_; case hin => unfold InI; omega)
               | refine TO.oo rfl rfl rfl (ok_int rfl (vl rfl) (vl rfl) rfl) ?_
              refine TO.oo rfl rfl rfl (okp_indexSl rfl Try.underlying26 sz3 (vl rfl) (vl rfl) (by omega) (by omega)) ?_
              refine TO.ef0 0 rfl rfl (ef_store rfl rfl (vl rfl) (VL.le (vl rfl) (one_cellsP _)) sz3 rfl (by unfold arr; rw [List.length_map, cntL_len]; omega) (cntL_store hj)) ?_
              refine TO.nil (Fin.block (Fin.go (Tr.reg0 ?_)))
              refine Ch.mv rfl rfl rfl rfl rfl ?_
              first
               | (refine Ch.oo rfl rfl rfl (ok_add rfl (vl rfl) (vl rfl) ?hin) ?_; case hin => unfold InI; omega)
               | refine Ch.oo rfl rfl rfl (ok_int rfl (vl rfl) (vl rfl) rfl) ?_
              refine Ch.as rfl rfl rfl rfl rfl ?_
              refine Ch.nil ?_
              exact Fin.fam (k + 1) ⟨hk_k, by omega⟩ ⟨⟨_, rfl, int_succ k⟩, ke rfl, ke rfl, ke rfl, ke rfl, trivial⟩ ((by rw [take_snoc hx_k]; exact fun _ _ h => h))
         ·
          have he_k : k = (x.fnds).length := by have := ge_of_dec h9; omega
          subst he_k
          rw [List.take_length, ← flat_snoc (f := fun e : Ent => e.fnds) hx_i]
          refine Tr.exit ?_
          refine Fin.then_exit ?_
          refine Fin.then_exit ?_
          refine Fin.block_here ?_
          refine Fin.block (Fin.go (Tr.reg0 ?_))
          refine Ch.mv rfl rfl rfl rfl rfl ?_
          first
           | (refine Ch.oo rfl rfl rfl (ok_add rfl (vl rfl) (vl rfl) ?hin) ?_; case hin => unfold InI; omega)
           | refine Ch.oo rfl rfl rfl (ok_int rfl (vl rfl) (vl rfl) rfl) ?_
          refine Ch.as rfl rfl rfl rfl rfl ?_
          refine Ch.nil ?_
          exact Fin.fam (i + 1) ⟨hk_i, by omega⟩ ⟨⟨_, rfl, int_succ i⟩, ke rfl, ke rfl, ke rfl, trivial⟩ (fun _ _ h => h)
       ·
        iterate 12 refine Ch.nt h7 rfl rfl rfl rfl rfl ?_
        refine Ch.y h6 rfl rfl rfl rfl rfl (ok_pick_f rfl (vl rfl) h7 (vl rfl)) ?_
        refine Ch.oo rfl rfl rfl (ok_pick_f rfl (vl rfl) h6 (vl rfl)) ?_
        refine Ch.nil (Fin.go ?_)
        refine Tr.w5 6 7 9 10 90 rfl rfl rfl rfl rfl ?_
        refine Tr.cond rfl (fun h => nomatch h) (fun _ => ?_)
        refine Tr.skip (Fin.go (Tr.seq (Tr.reg0 ?_)))
        refine Ch.as rfl rfl rfl rfl rfl ?_
        refine Ch.nil (Fin.go (Tr.block ?_))
        refine Tr.loopR [(6, _), (7, _), (9, _), (10, _)] ⟨ke rfl, ke rfl, ke rfl, ke rfl, trivial⟩ (fun k : Nat => [(11, int ((k : Nat) : Int))]) (fun k : Nat => Hp M0 w0 noS ([cellsRes true b2 3 (arr (cntL z1.length (((entsF z1 (a % 8)).take i).flatMap (·.fnds) ++ x.fnds.take k))), diceS b1 s1])) (fun k : Nat => k ≤ (x.fnds).length) (fun k : Nat => (x.fnds).length - k) 0 (Nat.zero_le _) ⟨ke rfl, trivial⟩ ((by rw [List.take_zero, List.append_nil]; exact fun _ _ h => h)) ?_
        rintro k hle_k
        refine Tr.seq (Tr.seq (Tr.reg0 ?_))
        iterate 3 refine Ch.mv rfl rfl rfl rfl rfl ?_
        refine Ch.oo rfl rfl rfl (ok_indexAddr rfl Try.underlying23 sz28 (vl rfl) (vl rfl) (by omega) (row_at hx_i)) ?_
        refine Ch.oo rfl rfl rfl (ok_fieldAddr rfl fo28_3 (vl rfl) rfl) ?_
        refine Ch.oo rfl rfl rfl (ok_load1 rfl one26 (vl rfl)) ?_
        first
         | refine Ch.oo rfl rfl rfl (ok_lenm rfl Try.underlying26 (vl rfl)) ?_
         | refine Ch.oo rfl rfl rfl (ok_len rfl Try.underlying26 (vl rfl)) ?_
        refine Ch.oo rfl rfl rfl (ok_int rfl (vl rfl) (vl rfl) rfl) ?_
        refine Ch.nil (Fin.go ?_)
        refine Tr.cn rfl (fun h17 q17 => ?_) (fun h17 q17 => ?_)
        ·
         have hk_k : k < (x.fnds).length := lt_of_dec h17
         obtain ⟨v, hx_k⟩ := at_ hk_k
         obtain ⟨j, hj, hjr, hvj⟩ := (fnds_mem (root := rootS z1 (a % 8)) (r := r) (Nat.le_refl _)).1 (hxe ▸ List.mem_of_getElem? hx_k)
         subst hvj
         obtain ⟨g, hgj⟩ := at_ hj
         have hof : ofE (entsF z1 (a % 8)) ((j : Nat) : Int) = ((r : Nat) : Int) := by rw [of_root hj, hjr]
         have hcb := part_count (f := fun e : Ent => e.fnds) (k := k) (v := ((j : Nat) : Int)) hx_i
         rw [all_count hj] at hcb
         refine Tr.skip (Fin.go (Tr.seq (Tr.block (Tr.seq (Tr.reg0 ?_)))))
         refine Ch.mv rfl rfl rfl rfl rfl ?_
         refine Ch.mv rfl rfl rfl rfl rfl ?_
         refine Ch.oo rfl rfl rfl (ok_indexAddr rfl Try.underlying23 sz28 (vl rfl) (vl rfl) (by omega) (row_at hx_i)) ?_
         refine Ch.oo rfl rfl rfl (ok_fieldAddr rfl fo28_3 (vl rfl) rfl) ?_
         refine Ch.oo rfl rfl rfl (ok_load1 rfl one26 (vl rfl)) ?_
         refine Ch.mv rfl rfl rfl rfl rfl ?_
         refine Ch.oo rfl rfl rfl (ok_indexAddr rfl Try.underlying26 sz3 (vl rfl) (vl rfl) (by omega) (row_at hx_k)) ?_
         refine Ch.oo rfl rfl rfl (ok_load1 rfl one3 (vl rfl)) ?_
         refine Ch.as rfl rfl rfl rfl rfl ?_
         refine Ch.nil (Fin.go ?_)
         refine Tr.w6 6 7 9 10 11 12 rfl rfl rfl rfl rfl rfl ?_
         refine Tr.seq (Tr.seq ?_)
         refine Tr.reg1 mixed (by kernel_rfl) ?_
         refine Ch.mv rfl rfl rfl rfl rfl ?_
         refine Ch.oo rfl rfl rfl (ok_int rfl (vl rfl) (vl rfl) rfl) ?_
         refine Ch.mv rfl rfl rfl rfl rfl ?_
         refine Ch.cs 111 rfl (fun h18 q18 => ?_) (fun h18 q18 => ?_)
         ·
          exfalso; omega
         ·
          refine Ch.ym h18 rfl rfl rfl rfl rfl rfl rfl ?_
          refine Ch.ym h18 rfl rfl rfl rfl rfl rfl rfl ?_
          first
           | refine Ch.y h18 rfl rfl rfl rfl rfl (ok_lenm rfl Try.underlying22 (vl rfl)) ?_
           | refine Ch.y h18 rfl rfl rfl rfl rfl (ok_len rfl Try.underlying22 (vl rfl)) ?_
          refine Ch.y h18 rfl rfl rfl rfl rfl (ok_int rfl (vl rfl) (vl rfl) rfl) ?_
          refine Ch.oo rfl rfl rfl (ok_pick_f rfl (vl rfl) h18 (vl rfl)) ?_
          refine Ch.mv rfl rfl rfl rfl rfl ?_
          refine Ch.cs 117 rfl (fun h19 q19 => ?_) (fun h19 q19 => ?_)
          ·
           exfalso; omega
          ·
           refine Ch.ym h19 rfl rfl rfl rfl rfl rfl rfl ?_
           refine Ch.ym h19 rfl rfl rfl rfl rfl rfl rfl ?_
           refine Ch.y h19 rfl rfl rfl rfl rfl (ok_indexAddr rfl Try.underlying22 sz45 (vl rfl) (vl rfl) (by omega) (row_at hgj)) ?_
           refine Ch.y h19 rfl rfl rfl rfl rfl (ok_fieldAddr rfl fo45_2 (vl rfl) rfl) ?_
           refine Ch.y h19 rfl rfl rfl rfl rfl (ok_load1 rfl one3 (vl rfl)) ?_
           refine Ch.y h19 rfl rfl rfl rfl rfl (ok_int rfl (vl rfl) (vl rfl) rfl) ?_
           refine Ch.ym h19 rfl rfl rfl rfl rfl rfl rfl ?_
           refine Ch.cs 124 rfl (fun h20 q20 => ?_) (fun h20 q20 => ?_)
           ·
            have hmm := mach_of hxe hgj hjr q20
            refine Ch.ym h20 rfl rfl rfl rfl rfl rfl rfl ?_
            refine Ch.ym h20 rfl rfl rfl rfl rfl rfl rfl ?_
            refine Ch.y h20 rfl rfl rfl rfl rfl (ok_indexAddr rfl Try.underlying23 sz28 (vl rfl) (vl rfl) (by omega) (row_at hx_i)) ?_
            refine Ch.y h20 rfl rfl rfl rfl rfl (ok_fieldAddr rfl fo28_2 (vl rfl) rfl) ?_
            refine Ch.y h20 rfl rfl rfl rfl rfl (ok_load1 rfl one26 (vl rfl)) ?_
            first
             | refine Ch.y h20 rfl rfl rfl rfl rfl (ok_lenm rfl Try.underlying26 (vl rfl)) ?_
             | refine Ch.y h20 rfl rfl rfl rfl rfl (ok_len rfl Try.underlying26 (vl rfl)) ?_
            refine Ch.y h20 rfl rfl rfl rfl rfl (ok_int rfl (vl rfl) (vl rfl) rfl) ?_
            refine Ch.ym h20 rfl rfl rfl rfl rfl rfl rfl ?_
            refine Ch.cs 132 rfl (fun h21 q21 => ?_) (fun h21 q21 => ?_)
            ·
             exfalso; rw [hmm] at q21; simp at q21
            ·
             refine Ch.ym h21 rfl rfl rfl rfl rfl rfl rfl ?_
             refine Ch.ym h21 rfl rfl rfl rfl rfl rfl rfl ?_
             refine Ch.y h21 rfl rfl rfl rfl rfl (ok_indexAddr rfl Try.underlying23 sz28 (vl rfl) (vl rfl) (by omega) (row_at hx_i)) ?_
             refine Ch.y h21 rfl rfl rfl rfl rfl (ok_fieldAddr rfl fo28_2 (vl rfl) rfl) ?_
             refine Ch.y h21 rfl rfl rfl rfl rfl (ok_load1 rfl one26 (vl rfl)) ?_
             refine Ch.y h21 rfl rfl rfl rfl rfl (ok_indexAddr rfl Try.underlying26 sz3 (vl rfl) (vl rfl) (by omega) (row_atI (i := 0) (by rw [hmm]; rfl))) ?_
             refine Ch.y h21 rfl rfl rfl rfl rfl (ok_load1 rfl one3 (vl rfl)) ?_
             refine Ch.ym h21 rfl rfl rfl rfl rfl rfl rfl ?_
             refine Ch.ym h21 rfl rfl rfl rfl rfl rfl rfl ?_
             refine Ch.y h21 rfl rfl rfl rfl rfl (ok_indexAddr rfl Try.underlying22 sz45 (vl rfl) (vl rfl) (by omega) (row_at hgj)) ?_
             refine Ch.y h21 rfl rfl rfl rfl rfl (ok_fieldAddr rfl fo45_2 (vl rfl) rfl) ?_
             refine Ch.y h21 rfl rfl rfl rfl rfl (ok_load1 rfl one3 (vl rfl)) ?_
             refine Ch.y h21 rfl rfl rfl rfl rfl (ok_int rfl (vl rfl) (vl rfl) rfl) ?_
             refine Ch.y h20 rfl rfl rfl rfl rfl (ok_pick_f rfl (vl rfl) h21 (vl rfl)) ?_
             refine Ch.y h19 rfl rfl rfl rfl rfl (ok_pick_t rfl (vl rfl) h20 (vl rfl)) ?_
             refine Ch.oo rfl rfl rfl (ok_pick_f rfl (vl rfl) h19 (vl rfl)) ?_
             refine Ch.mv rfl rfl rfl rfl rfl ?_
             refine Ch.cs 149 rfl (fun h22 q22 => ?_) (fun h22 q22 => ?_)
             ·
              exfalso; simp at h22
             ·
              refine Ch.ym h22 rfl rfl rfl rfl rfl rfl rfl ?_
              refine Ch.ym h22 rfl rfl rfl rfl rfl rfl rfl ?_
              refine Ch.y h22 rfl rfl rfl rfl rfl (ok_call rfl (w_IOf) ⟨ke rfl, ke rfl, trivial⟩) ?_
              refine Ch.ym h22 rfl rfl rfl rfl rfl rfl rfl ?_
              refine Ch.ym h22 rfl rfl rfl rfl rfl rfl rfl ?_
              refine Ch.y h22 rfl rfl rfl rfl rfl (ok_indexAddr rfl Try.underlying23 sz28 (vl rfl) (vl rfl) (by omega) (row_at hx_i)) ?_
              refine Ch.y h22 rfl rfl rfl rfl rfl (ok_fieldAddr rfl fo28_0 (vl rfl) rfl) ?_
              refine Ch.y h22 rfl rfl rfl rfl rfl (ok_load1 rfl one3 (vl rfl)) ?_
              refine Ch.y h22 rfl rfl rfl rfl rfl (ok_int rfl (vl rfl) (vl rfl) rfl) ?_
              refine Ch.oo rfl rfl rfl (ok_pick_f rfl (vl rfl) h22 (vl rfl)) ?_
              refine Ch.nil (Fin.go ?_)
              refine Tr.w7 6 7 9 10 11 12 159 rfl rfl rfl rfl rfl rfl rfl ?_
              refine Tr.cn rfl (fun h23 q23 => ?_) (fun h23 q23 => ?_)
              ·
               exfalso; omega
              ·
               refine Tr.skip (Fin.go (Tr.regT ?_))
               refine TO.mv rfl rfl rfl rfl rfl ?_
               refine TO.mv rfl rfl rfl rfl rfl ?_
               refine TO.oo rfl rfl rfl (okp_indexSl rfl Try.underlying26 sz3 (vl rfl) (vl rfl) (by omega) (by omega)) ?_
               refine TO.rd 0 rfl rfl rfl (by decide) (rd_load1 rfl one3 (vl rfl) (arr_atO (by rw [Int.toNat_natCast]; exact cntL_at hj))) ?_
               first
                | (refine TO.oo rfl rfl rfl (ok_add rfl (vl rfl) (vl rfl) ?hin) ?_; case hin => unfold InI; omega)
                | refine TO.oo rfl rfl rfl (ok_int rfl (vl rfl) (vl rfl) rfl) ?_
               refine TO.oo rfl rfl rfl (okp_indexSl rfl Try.underlying26 sz3 (vl rfl) (vl rfl) (by omega) (by omega)) ?_
               refine TO.ef0 0 rfl rfl (ef_store rfl rfl (vl rfl) (VL.le (vl rfl) (one_cellsP _)) sz3 rfl (by unfold arr; rw [List.length_map, cntL_len]; omega) (cntL_store hj)) ?_
               refine TO.nil (Fin.block (Fin.go (Tr.reg0 ?_)))
               refine Ch.mv rfl rfl rfl rfl rfl ?_
               first
                | (refine Ch.oo rfl rfl rfl (ok_add rfl (vl rfl) (vl rfl) ?hin) ?_; case hin => unfold InI; omega)
                | refine Ch.oo rfl rfl rfl (ok_int rfl (vl rfl) (vl rfl) rfl) ?_
               refine Ch.as rfl rfl rfl rfl rfl ?_
               refine Ch.nil ?_
               exact Fin.fam (k + 1) ⟨hk_k, by omega⟩ ⟨⟨_, rfl, int_succ k⟩, ke rfl, ke rfl, ke rfl, ke rfl, trivial⟩ ((by rw [take_snoc hx_k]; exact fun _ _ h => h))
           ·
            iterate 8 refine Ch.nt h20 rfl rfl rfl rfl rfl ?_
            iterate 13 refine Ch.u rfl rfl rfl rfl rfl ?_
            refine Ch.nt h20 rfl rfl rfl rfl rfl ?_
            refine Ch.y h19 rfl rfl rfl rfl rfl (ok_pick_f rfl (vl rfl) h20 (vl rfl)) ?_
            refine Ch.oo rfl rfl rfl (ok_pick_f rfl (vl rfl) h19 (vl rfl)) ?_
            refine Ch.mv rfl rfl rfl rfl rfl ?_
            refine Ch.ym rfl rfl rfl rfl rfl rfl rfl rfl ?_
            refine Ch.ym rfl rfl rfl rfl rfl rfl rfl rfl ?_
            refine Ch.y rfl rfl rfl rfl rfl rfl (ok_call rfl (w_IOf) ⟨ke rfl, ke rfl, trivial⟩) ?_
            refine Ch.ym rfl rfl rfl rfl rfl rfl rfl rfl ?_
            refine Ch.ym rfl rfl rfl rfl rfl rfl rfl rfl ?_
            refine Ch.y rfl rfl rfl rfl rfl rfl (ok_indexAddr rfl Try.underlying23 sz28 (vl rfl) (vl rfl) (by omega) (row_at hx_i)) ?_
            refine Ch.y rfl rfl rfl rfl rfl rfl (ok_fieldAddr rfl fo28_0 (vl rfl) rfl) ?_
            refine Ch.y rfl rfl rfl rfl rfl rfl (ok_load1 rfl one3 (vl rfl)) ?_
            refine Ch.y rfl rfl rfl rfl rfl rfl (ok_int rfl (vl rfl) (vl rfl) rfl) ?_
            refine Ch.oo rfl rfl rfl (ok_pick_f rfl (vl rfl) rfl (vl rfl)) ?_
            refine Ch.nil (Fin.go ?_)
            refine Tr.w7 6 7 9 10 11 12 159 rfl rfl rfl rfl rfl rfl rfl ?_
            refine Tr.cn rfl (fun h24 q24 => ?_) (fun h24 q24 => ?_)
            ·
             exfalso; omega
            ·
             refine Tr.skip (Fin.go (Tr.regT ?_))
             refine TO.mv rfl rfl rfl rfl rfl ?_
             refine TO.mv rfl rfl rfl rfl rfl ?_
             refine TO.oo rfl rfl rfl (okp_indexSl rfl Try.underlying26 sz3 (vl rfl) (vl rfl) (by omega) (by omega)) ?_
             refine TO.rd 0 rfl rfl rfl (by decide) (rd_load1 rfl one3 (vl rfl) (arr_atO (by rw [Int.toNat_natCast]; exact cntL_at hj))) ?_
             first
              | (refine TO.oo rfl rfl rfl (ok_add rfl (vl rfl) (vl rfl) ?hin) ?_; case hin => unfold InI; omega)
              | refine TO.oo rfl rfl rfl (ok_int rfl (vl rfl) (vl rfl) rfl) ?_
             refine TO.oo rfl rfl rfl (okp_indexSl rfl Try.underlying26 sz3 (vl rfl) (vl rfl) (by omega) (by omega)) ?_
             refine TO.ef0 0 rfl rfl (ef_store rfl rfl (vl rfl) (VL.le (vl rfl) (one_cellsP _)) sz3 rfl (by unfold arr; rw [List.length_map, cntL_len]; omega) (cntL_store hj)) ?_
             refine TO.nil (Fin.block (Fin.go (Tr.reg0 ?_)))
             refine Ch.mv rfl rfl rfl rfl rfl ?_
             first
              | (refine Ch.oo rfl rfl rfl (ok_add rfl (vl rfl) (vl rfl) ?hin) ?_; case hin => unfold InI; omega)
              | refine Ch.oo rfl rfl rfl (ok_int rfl (vl rfl) (vl rfl) rfl) ?_
             refine Ch.as rfl rfl rfl rfl rfl ?_
             refine Ch.nil ?_
             exact Fin.fam (k + 1) ⟨hk_k, by omega⟩ ⟨⟨_, rfl, int_succ k⟩, ke rfl, ke rfl, ke rfl, ke rfl, trivial⟩ ((by rw [take_snoc hx_k]; exact fun _ _ h => h))
        ·
         have he_k : k = (x.fnds).length := by have := ge_of_dec h17; omega
         subst he_k
         rw [List.take_length, ← flat_snoc (f := fun e : Ent => e.fnds) hx_i]
         refine Tr.exit ?_
         refine Fin.then_exit ?_
         refine Fin.then_exit ?_
         refine Fin.block_here ?_
         refine Fin.block (Fin.go (Tr.reg0 ?_))
         refine Ch.mv rfl rfl rfl rfl rfl ?_
         first
          | (refine Ch.oo rfl rfl rfl (ok_add rfl (vl rfl) (vl rfl) ?hin) ?_; case hin => unfold InI; omega)
          | refine Ch.oo rfl rfl rfl (ok_int rfl (vl rfl) (vl rfl) rfl) ?_
         refine Ch.as rfl rfl rfl rfl rfl ?_
         refine Ch.nil ?_
         exact Fin.fam (i + 1) ⟨hk_i, by omega⟩ ⟨⟨_, rfl, int_succ i⟩, ke rfl, ke rfl, ke rfl, trivial⟩ (fun _ _ h => h)
   ·
    have he_i : i = ((entsF z1 (a % 8))).length := by have := ge_of_dec h3; omega
    subst he_i
    rw [List.take_length]
    refine Tr.exit ?_
    refine Fin.then_exit ?_
    refine Fin.then_exit ?_
    refine Fin.block_here ?_
    refine Fin.go (Tr.seq (Tr.seq (Tr.reg0 ?_)))
    refine Ch.as rfl rfl rfl rfl rfl ?_
    refine Ch.nil (Fin.go (Tr.block ?_))
    refine Tr.loopR [(6, _), (7, _), (9, _)] ⟨ke rfl, ke rfl, ke rfl, trivial⟩ (fun i : Nat => [(13, int ((i : Nat) : Int))]) (fun i : Nat => Hp M0 w0 noS ([cellsRes true b2 3 (arr (cntL z1.length ((entsF z1 (a % 8)).flatMap (·.fnds)))), diceS b1 s1])) (fun i : Nat => i ≤ (z1).length) (fun i : Nat => (z1).length - i) 0 (Nat.zero_le _) ⟨ke rfl, trivial⟩ (fun _ _ h => h) ?_
    rintro i hle_i
    refine Tr.seq (Tr.seq (Tr.reg0 ?_))
    refine Ch.mv rfl rfl rfl rfl rfl ?_
    refine Ch.mv rfl rfl rfl rfl rfl ?_
    first
     | refine Ch.oo rfl rfl rfl (ok_lenm rfl Try.underlying22 (vl rfl)) ?_
     | refine Ch.oo rfl rfl rfl (ok_len rfl Try.underlying22 (vl rfl)) ?_
    refine Ch.oo rfl rfl rfl (ok_int rfl (vl rfl) (vl rfl) rfl) ?_
    refine Ch.nil (Fin.go ?_)
    refine Tr.cn rfl (fun h25 q25 => ?_) (fun h25 q25 => ?_)
    ·
     have hk_i : i < (z1).length := lt_of_dec h25
     obtain ⟨f, hx_i⟩ := at_ hk_i
     refine Tr.skip (Fin.go (Tr.seq (Tr.block (Tr.seq (Tr.seq (Tr.reg0 ?_))))))
     refine Ch.mv rfl rfl rfl rfl rfl ?_
     refine Ch.mv rfl rfl rfl rfl rfl ?_
     refine Ch.oo rfl rfl rfl (okp_indexSl rfl Try.underlying26 sz3 (vl rfl) (vl rfl) (by omega) (by omega)) ?_
     refine Ch.oo rfl rfl rfl (ok_rd 0 rfl (rd_load1 rfl one3 (vl rfl) (arr_atO (by rw [Int.toNat_natCast]; exact cntL_at hk_i)))) ?_
     refine Ch.oo rfl rfl rfl (ok_int rfl (vl rfl) (vl rfl) rfl) ?_
     refine Ch.nil (Fin.go ?_)
     refine Tr.cn rfl (fun h26 q26 => ?_) (fun h26 q26 => ?_)
     ·
      exfalso; have := all_count (gap := (a % 8)) hk_i; omega
     ·
      refine Tr.skip (Fin.go (Tr.seq (Tr.reg0 ?_)))
      refine Ch.as rfl rfl rfl rfl rfl ?_
      refine Ch.nil (Fin.go ?_)
      refine Tr.w5 6 7 9 13 14 rfl rfl rfl rfl rfl ?_
      refine Tr.block ?_
      refine Tr.loopR [(6, _), (7, _), (9, _), (13, _)] ⟨ke rfl, ke rfl, ke rfl, ke rfl, trivial⟩ (fun m : Nat => [(14, int ((m : Nat) : Int))]) (fun m : Nat => Hp M0 w0 noS ([cellsRes true b2 3 (arr (cntL z1.length ((entsF z1 (a % 8)).flatMap (·.fnds)))), diceS b1 s1])) (fun m : Nat => m ≤ (i)) (fun m : Nat => (i) - m) 0 (Nat.zero_le _) ⟨ke rfl, trivial⟩ (fun _ _ h => h) ?_
      rintro m hle_m
      refine Tr.seq (Tr.seq (Tr.reg0 ?_))
      refine Ch.mv rfl rfl rfl rfl rfl ?_
      refine Ch.mv rfl rfl rfl rfl rfl ?_
      refine Ch.oo rfl rfl rfl (ok_int rfl (vl rfl) (vl rfl) rfl) ?_
      refine Ch.nil (Fin.go ?_)
      refine Tr.cn rfl (fun h27 q27 => ?_) (fun h27 q27 => ?_)
      ·
       have hk_m : m < (i) := lt_of_dec h27
       obtain ⟨g, hgm⟩ := at_ (l := z1) (k := m) (by omega)
       refine Tr.skip (Fin.go (Tr.seq (Tr.block (Tr.seq ?_))))
       refine Tr.reg1 mixed (by kernel_rfl) ?_
       refine Ch.mv rfl rfl rfl rfl rfl ?_
       refine Ch.mv rfl rfl rfl rfl rfl ?_
       refine Ch.oo rfl rfl rfl (ok_indexAddr rfl Try.underlying22 sz45 (vl rfl) (vl rfl) (by omega) (row_at hx_i)) ?_
       refine Ch.oo rfl rfl rfl (ok_fieldAddr rfl fo45_2 (vl rfl) rfl) ?_
       refine Ch.oo rfl rfl rfl (ok_load1 rfl one3 (vl rfl)) ?_
       refine Ch.oo rfl rfl rfl (ok_int rfl (vl rfl) (vl rfl) rfl) ?_
       refine Ch.mv rfl rfl rfl rfl rfl ?_
       refine Ch.cs 188 rfl (fun h28 q28 => ?_) (fun h28 q28 => ?_)
       ·
        refine Ch.ym h28 rfl rfl rfl rfl rfl rfl rfl ?_
        refine Ch.ym h28 rfl rfl rfl rfl rfl rfl rfl ?_
        refine Ch.y h28 rfl rfl rfl rfl rfl (ok_indexAddr rfl Try.underlying22 sz45 (vl rfl) (vl rfl) (by omega) (row_at hx_i)) ?_
        refine Ch.y h28 rfl rfl rfl rfl rfl (ok_fieldAddr rfl fo45_2 (vl rfl) rfl) ?_
        refine Ch.y h28 rfl rfl rfl rfl rfl (ok_load1 rfl one3 (vl rfl)) ?_
        refine Ch.ym h28 rfl rfl rfl rfl rfl rfl rfl ?_
        refine Ch.ym h28 rfl rfl rfl rfl rfl rfl rfl ?_
        refine Ch.y h28 rfl rfl rfl rfl rfl (ok_indexAddr rfl Try.underlying22 sz45 (vl rfl) (vl rfl) (by omega) (row_at hgm)) ?_
        refine Ch.y h28 rfl rfl rfl rfl rfl (ok_fieldAddr rfl fo45_2 (vl rfl) rfl) ?_
        refine Ch.y h28 rfl rfl rfl rfl rfl (ok_load1 rfl one3 (vl rfl)) ?_
        refine Ch.y h28 rfl rfl rfl rfl rfl (ok_int rfl (vl rfl) (vl rfl) rfl) ?_
        refine Ch.oo rfl rfl rfl (ok_pick_t rfl (vl rfl) h28 (vl rfl)) ?_
        refine Ch.mv rfl rfl rfl rfl rfl ?_
        refine Ch.cs 201 rfl (fun h29 q29 => ?_) (fun h29 q29 => ?_)
        ·
         have hoo : ofE (entsF z1 (a % 8)) ((i : Nat) : Int) = ofE (entsF z1 (a % 8)) ((m : Nat) : Int) := by rw [of_root hk_i, of_root (by omega), rootS_meq (i := m) (by rw [mOf_own hgm (by omega)]; omega) (by rw [mOf_own hx_i (by assumption), mOf_own hgm (by omega)]; omega)]
         refine Ch.ym h29 rfl rfl rfl rfl rfl rfl rfl ?_
         refine Ch.ym h29 rfl rfl rfl rfl rfl rfl rfl ?_
         refine Ch.y h29 rfl rfl rfl rfl rfl (ok_call rfl (w_IOf) ⟨ke rfl, ke rfl, trivial⟩) ?_
         refine Ch.ym h29 rfl rfl rfl rfl rfl rfl rfl ?_
         refine Ch.ym h29 rfl rfl rfl rfl rfl rfl rfl ?_
         refine Ch.y h29 rfl rfl rfl rfl rfl (ok_call rfl (w_IOf) ⟨ke rfl, ke rfl, trivial⟩) ?_
         refine Ch.y h29 rfl rfl rfl rfl rfl (ok_int rfl (vl rfl) (vl rfl) rfl) ?_
         refine Ch.oo rfl rfl rfl (ok_pick_t rfl (vl rfl) h29 (vl rfl)) ?_
         refine Ch.nil (Fin.go ?_)
         refine Tr.w6 6 7 9 13 14 209 rfl rfl rfl rfl rfl rfl ?_
         refine Tr.cn rfl (fun h30 q30 => ?_) (fun h30 q30 => ?_)
         ·
          exfalso; omega
         ·
          refine Tr.skip (Fin.block (Fin.go (Tr.reg0 ?_)))
          refine Ch.mv rfl rfl rfl rfl rfl ?_
          first
           | (refine Ch.oo rfl rfl rfl (ok_add rfl (vl rfl) (vl rfl) ?hin) ?_; case hin => unfold InI; omega)
           | refine Ch.oo rfl rfl rfl (ok_int rfl (vl rfl) (vl rfl) rfl) ?_
          refine Ch.as rfl rfl rfl rfl rfl ?_
          refine Ch.nil ?_
          exact Fin.fam (m + 1) ⟨hk_m, by omega⟩ ⟨⟨_, rfl, int_succ m⟩, ke rfl, ke rfl, ke rfl, ke rfl, trivial⟩ (fun _ _ h => h)
        ·
         iterate 7 refine Ch.nt h29 rfl rfl rfl rfl rfl ?_
         refine Ch.oo rfl rfl rfl (ok_pick_f rfl (vl rfl) h29 (vl rfl)) ?_
         refine Ch.nil (Fin.go ?_)
         refine Tr.w6 6 7 9 13 14 209 rfl rfl rfl rfl rfl rfl ?_
         refine Tr.cond rfl (fun h => nomatch h) (fun _ => ?_)
         refine Tr.skip (Fin.block (Fin.go (Tr.reg0 ?_)))
         refine Ch.mv rfl rfl rfl rfl rfl ?_
         first
          | (refine Ch.oo rfl rfl rfl (ok_add rfl (vl rfl) (vl rfl) ?hin) ?_; case hin => unfold InI; omega)
          | refine Ch.oo rfl rfl rfl (ok_int rfl (vl rfl) (vl rfl) rfl) ?_
         refine Ch.as rfl rfl rfl rfl rfl ?_
         refine Ch.nil ?_
         exact Fin.fam (m + 1) ⟨hk_m, by omega⟩ ⟨⟨_, rfl, int_succ m⟩, ke rfl, ke rfl, ke rfl, ke rfl, trivial⟩ (fun _ _ h => h)
       ·
        iterate 11 refine Ch.nt h28 rfl rfl rfl rfl rfl ?_
        refine Ch.oo rfl rfl rfl (ok_pick_f rfl (vl rfl) h28 (vl rfl)) ?_
        refine Ch.mv rfl rfl rfl rfl rfl ?_
        iterate 7 refine Ch.nd rfl rfl rfl rfl rfl rfl ?_
        refine Ch.oo rfl rfl rfl (ok_pick_f rfl (vl rfl) rfl (vl rfl)) ?_
        refine Ch.nil (Fin.go ?_)
        refine Tr.w6 6 7 9 13 14 209 rfl rfl rfl rfl rfl rfl ?_
        refine Tr.cond rfl (fun h => nomatch h) (fun _ => ?_)
        refine Tr.skip (Fin.block (Fin.go (Tr.reg0 ?_)))
        refine Ch.mv rfl rfl rfl rfl rfl ?_
        first
         | (refine Ch.oo rfl rfl rfl (ok_add rfl (vl rfl) (vl rfl) ?hin) ?_; case hin => unfold InI; omega)
         | refine Ch.oo rfl rfl rfl (ok_int rfl (vl rfl) (vl rfl) rfl) ?_
        refine Ch.as rfl rfl rfl rfl rfl ?_
        refine Ch.nil ?_
        exact Fin.fam (m + 1) ⟨hk_m, by omega⟩ ⟨⟨_, rfl, int_succ m⟩, ke rfl, ke rfl, ke rfl, ke rfl, trivial⟩ (fun _ _ h => h)
      ·
       have he_m : m = (i) := by have := ge_of_dec h27; omega
       refine Tr.exit ?_
       refine Fin.then_exit ?_
       refine Fin.then_exit ?_
       refine Fin.block_here ?_
       refine Fin.block (Fin.go (Tr.reg0 ?_))
       refine Ch.mv rfl rfl rfl rfl rfl ?_
       first
        | (refine Ch.oo rfl rfl rfl (ok_add rfl (vl rfl) (vl rfl) ?hin) ?_; case hin => unfold InI; omega)
        | refine Ch.oo rfl rfl rfl (ok_int rfl (vl rfl) (vl rfl) rfl) ?_
       refine Ch.as rfl rfl rfl rfl rfl ?_
       refine Ch.nil ?_
       exact Fin.fam (i + 1) ⟨hk_i, by omega⟩ ⟨⟨_, rfl, int_succ i⟩, ke rfl, ke rfl, ke rfl, trivial⟩ (fun _ _ h => h)
    ·
     have he_i : i = (z1).length := by have := ge_of_dec h25; omega
     refine Tr.exit ?_
     refine Fin.then_exit ?_
     refine Fin.then_exit ?_
     refine Fin.block_here ?_
     refine Fin.go (Tr.seq (Tr.reg0 ?_))
     refine Ch.oo rfl rfl rfl (ok_call rfl (w_awake15) trivial) ?_
     refine Ch.as rfl rfl rfl rfl rfl ?_
     refine Ch.nil (Fin.go (Tr.ret ?_))
     refine Fin.ret1 rfl (OutW.bse _ _) rfl ?_
     · first | exact Pr.le_refl _ | (refine int_eq ?_; simp_all; done) | (refine bool_eq ?_; simp_all; done) | (refine bool_eq ?_; simp_all; omega) | (refine int_eq ?_; omega)
set_option maxRecDepth 40000 in
theorem identityParts_lifted (os : Os) (started : os.Started) (H : Type) (enc : TypeId × Value → H) :
    ReturnsInHanded {} Try.checked os 4 .any (Rows.identityPartsSpec.pre6 enc Try.prog Try.f4 Rows.identityPartsRow.domain false) (Rows.identityPartsSpec.post enc Try.prog Try.f4 false true false false) := by
  refine returnsInHanded_of_change (C := Try.checked) own0 started (by kernel_rfl) Try.func4
    (ChangeSpec.witness6 (enc := enc) (C := Try.checked) false ⟨#[], #[.slice none 0 0, .int .u8 0], []⟩ 8 (by kernel_rfl) (by kernel_rfl) (by kernel_rfl) (by kernel_rfl)) ?_
  intro W base args ds gs before hval0 hW hcnd _
  have hval : ∀ (j : Nat) t v, Try.f4.params[j]? = some t → args[j]? = some v → Value.okWide Try.prog W .any base t v := hval0
  have hW' := hW
  obtain ⟨p, q, hA0, hV, hpq, hfz, hnd⟩ := hW
  have hA : DataW.TrodAll enc Try.prog W 0 (fun _ => true) true Try.f4.params.toList args.toList ds p := hA0
  have hA' := hA
  rw [Try.params4] at hA hval
  obtain ⟨v0, v1, d0, d1, p0, p1, rfl, rfl, hp, h0, h1⟩ := trodAll_two hA
  obtain ⟨rfl, rfl⟩ := trodVars_none hV
  obtain ⟨a0, hr0, e0⟩ := arg_one (opens_ints Try.underlying26 Try.underlying3 (by kernel_rfl)) h0 (by obtain ⟨_, _, _, rfl⟩ := okWide_slice Try.underlying26 (hval 0 26 v0 rfl rfl); rfl)
  obtain ⟨a1, hr1, e1⟩ := arg_one (opens_int Try.underlying5) h1 (by obtain ⟨_, rfl⟩ := okWide_int Try.underlying5 (hval 1 5 v1 rfl rfl); rfl)
  refine ((w_IdentityParts (u8_in hr1)).2 noM W [v0, v1] (noM_bd W) ⟨e0, e1, trivial⟩).mono fun e W' ⟨v, he, hv, hb⟩ => ?_
  subst he
  obtain rfl : v = .bool true := hv
  exact ⟨_, rfl, law_post laidOut0 (by kernel_rfl) rfl Try.underlying4 rfl hA' (by rw [hpq]; simp) hW' rfl hb⟩
set_option maxRecDepth 40000 in
theorem identityParts_holds : Rows.IdentityPartsSaid :=
  OpenClaim.holds_of_wide 4 Try.f4 rfl rfl rfl rfl rfl rfl rfl ⟨rfl, rfl, rfl, rfl, rfl⟩ rfl rfl rfl rfl rfl (by kernel_rfl) Try.func4 (by kernel_rfl)
    (of_decide_eq_true (by kernel_rfl)) (by unfold Func.isWrapper; first | (rw [if_pos (by decide +kernel)]; kernel_rfl) | (rw [if_neg (by decide +kernel)]; exact ⟨rfl, rfl⟩))
    (fun os started H enc _ => identityParts_lifted os started H enc)
end Go.Proofs.Ytgdlhajfajddiaa
