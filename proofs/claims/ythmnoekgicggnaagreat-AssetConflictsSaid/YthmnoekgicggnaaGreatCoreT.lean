/-
  Parts of slices.
-/
import Derived.Test.YthmnoekgicggnaaGreatCoreS
namespace Cp
open Go Go.RowKit Go.Great

section
variable {P : Program} {E : Env} {I : Asn} {o : Oper}
theorem slice_part {M : Av} {w : World} {sz : Nat} {rows : List (List Pr)} {A : Option Addr} {cap lo hi : Nat} (h : (slice sz rows).h M w (.slice A rows.length cap)) (h1 : lo ≤ hi) (h2 : hi ≤ rows.length) :
    (slice sz ((rows.take hi).drop lo)).h M w (.slice (if cap = lo then A else A.map (·.add (lo * sz))) (hi - lo) (cap - lo)) := by
  obtain ⟨A', cap', hv, hc, hm, hA, hr⟩ := h
  injection hv with e1 _ e3
  subst e1; subst e3
  have hlen : ((rows.take hi).drop lo).length = hi - lo := by rw [List.length_drop, List.length_take]; omega
  refine ⟨_, cap - lo, by rw [hlen], by rw [hlen]; omega, by omega, fun h => ?_, fun i row hi' => ?_⟩
  · split at h
    · have := hA h; omega
    · cases hA2 : A with
      | none => have := hA hA2; omega
      | some a => rw [hA2] at h; cases h
  · rw [List.getElem?_drop, List.getElem?_take] at hi'
    split at hi'
    · rename_i hlt
      obtain ⟨h3, ad, h4, h5⟩ := hr _ row hi'
      subst h4
      rw [if_neg (by omega)]
      refine ⟨h3, _, rfl, fun j p hp => ?_⟩
      obtain ⟨u, h6, h7, h8, h9⟩ := h5 j p hp
      refine ⟨u, ?_, ?_, h8, h9⟩
      · rw [add_add, show lo * sz + (i * sz + j) = (lo + i) * sz + j by rw [Nat.add_mul]; omega]; exact h6
      · rw [add_block, add_off, show ad.off + lo * sz + (i * sz + j) = ad.off + ((lo + i) * sz + j) by rw [Nat.add_mul]; omega]; exact h7
    · cases hi'
theorem ok_sliceTo {t e : TypeId} {x y : Operand} {k : IntKind} {h : Int} {sz : Nat} {rows : List (List Pr)} (ho : o.op = .slice t x none (some y) none) (ht : P.underlying t = some (.slice e)) (hz : sizeB P e = some sz) (hx : VL E x (slice sz rows)) (hy : VL E y (is (.int k h))) (h0 : 0 ≤ h) (hl : h ≤ rows.length) :
    OpOK P I o E (slice sz (rows.take h.toNat)) :=
  OpOK.same fun M w a he _ => by
    have h1 := hx.ev he (by simp [ho, Op.operands])
    have h3 : a.eval y = _ := hy.ev he (by simp [ho, Op.operands])
    obtain ⟨A, cap, hv, hc, hm, hA, hr⟩ := h1
    have h2 := slice_part (lo := 0) (hi := h.toNat) (show (slice sz rows).h M w (.slice A rows.length cap) from ⟨A, cap, rfl, hc, hm, hA, hr⟩) (by omega) (by omega)
    refine ⟨_, ?_, by simpa using h2⟩
    have hb : h ≤ (cap : Int) := by omega
    simp [execOp, ho, hv, h3, Instr.sliceAt, Instr.slice, run_underlying ht, Instr.sliceBounds, Instr.sliceBound, asIntOf, h0, hb, run_size hz]
theorem ok_sliceFrom {t e : TypeId} {x y : Operand} {k : IntKind} {l : Int} {sz : Nat} {rows : List (List Pr)} (ho : o.op = .slice t x (some y) none none) (ht : P.underlying t = some (.slice e)) (hz : sizeB P e = some sz) (hx : VL E x (slice sz rows)) (hy : VL E y (is (.int k l))) (h0 : 0 ≤ l) (hl : l ≤ rows.length) :
    OpOK P I o E (slice sz (rows.drop l.toNat)) :=
  OpOK.same fun M w a he _ => by
    have h1 := hx.ev he (by simp [ho, Op.operands])
    have h3 : a.eval y = _ := hy.ev he (by simp [ho, Op.operands])
    obtain ⟨A, cap, hv, hc, hm, hA, hr⟩ := h1
    have h2 := slice_part (lo := l.toNat) (hi := rows.length) (show (slice sz rows).h M w (.slice A rows.length cap) from ⟨A, cap, rfl, hc, hm, hA, hr⟩) (by omega) (Nat.le_refl _)
    rw [List.take_length] at h2
    refine ⟨_, ?_, h2⟩
    simp [execOp, ho, hv, h3, Instr.sliceAt, Instr.slice, run_underlying ht, Instr.sliceBounds, Instr.sliceBound, asIntOf, h0, hl, run_size hz]
end
end Cp
