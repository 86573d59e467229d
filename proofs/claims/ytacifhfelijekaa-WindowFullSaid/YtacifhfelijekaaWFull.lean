/-
  WindowFull: whatever the input, the law of this name returns true and its arguments read as before. No conditions.
-/
import Derived.Test.YtacifhfelijekaaTypes
import Derived.Test.YtacifhfelijekaaTop
import Derived.Test.YtacifhfelijekaaL30Full
namespace Go.Proofs.Ytacifhfelijekaa
open Go Go.RowKit Cp Go.ChangeShapes Go.WideShapes Go.ChangeAt

theorem u8_in {n : Int} (h : (Lit.int .u8 n).wf = true) : 0 ≤ n ∧ n < 256 := by
  simp only [Lit.wf, Bool.and_eq_true, decide_eq_true_eq] at h
  have h1 : IntKind.u8.min = 0 := rfl
  have h2 : IntKind.u8.max = 255 := rfl
  omega

theorem windowFull_lifted (os : Os) (started : os.Started) (H : Type) (enc : TypeId × Value → H) :
    ReturnsInHanded {} Try.checked os 5 .any (Rows.windowFullSpec.pre6 enc Try.prog Try.f5 Rows.windowFullRow.domain false) (Rows.windowFullSpec.post enc Try.prog Try.f5 false true false false) := by
  refine returnsInHanded_of_change (C := Try.checked) own0 started (by kernel_rfl) Try.func5
    (ChangeSpec.witness6 (enc := enc) (C := Try.checked) false ⟨#[], #[.int .u8 0, .int .u8 0, .int .u8 0], []⟩ 8 (by kernel_rfl) (by kernel_rfl) (by kernel_rfl) (by kernel_rfl)) ?_
  intro W base args ds gs before hval0 hW hcnd _
  have hval : ∀ (j : Nat) t v, Try.f5.params[j]? = some t → args[j]? = some v → Value.okWide Try.prog W .any base t v := hval0
  have hW' := hW
  obtain ⟨p, q, hA0, hV, hpq, hfz, hnd⟩ := hW
  have hA : DataW.TrodAll enc Try.prog W 0 (fun _ => true) true Try.f5.params.toList args.toList ds p := hA0
  have hA' := hA
  rw [Try.params5] at hA hval
  obtain ⟨v0, v1, v2, d0, d1, d2, p0, p1, p2, rfl, rfl, hp, h0, h1, h2⟩ := trodAll_three hA
  obtain ⟨rfl, rfl⟩ := trodVars_none hV
  obtain ⟨a0, hr_, e0⟩ := arg_one (opens_int Try.underlying5) h0 (by obtain ⟨_, rfl⟩ := okWide_int Try.underlying5 (hval 0 5 v0 rfl rfl); rfl)
  obtain ⟨a1, ho_, e1⟩ := arg_one (opens_int Try.underlying5) h1 (by obtain ⟨_, rfl⟩ := okWide_int Try.underlying5 (hval 1 5 v1 rfl rfl); rfl)
  obtain ⟨a2, hd_, e2⟩ := arg_one (opens_int Try.underlying5) h2 (by obtain ⟨_, rfl⟩ := okWide_int Try.underlying5 (hval 2 5 v2 rfl rfl); rfl)
  refine ((w_WindowFull (u8_in hr_) (u8_in ho_) (u8_in hd_)).2 noM W [v0, v1, v2] (noM_bd W) ⟨e0, e1, e2, trivial⟩).mono fun e W' ⟨v, he, hv, hb⟩ => ?_
  subst he
  obtain rfl : v = .bool true := hv
  exact ⟨_, rfl, law_post laidOut0 (by kernel_rfl) rfl Try.underlying4 rfl hA' (by rw [hpq]; simp) hW' rfl hb⟩
theorem windowFull_holds : Rows.WindowFullSaid :=
  OpenClaim.holds_of_wide 5 Try.f5 rfl rfl rfl rfl rfl rfl rfl ⟨rfl, rfl, rfl, rfl, rfl⟩ rfl rfl rfl rfl rfl (by kernel_rfl) Try.func5 (by kernel_rfl)
    (of_decide_eq_true (by kernel_rfl)) (by unfold Func.isWrapper; first | (rw [if_pos (by decide +kernel)]; kernel_rfl) | (rw [if_neg (by decide +kernel)]; exact ⟨rfl, rfl⟩))
    (fun os started H enc _ => windowFull_lifted os started H enc)
end Go.Proofs.Ytacifhfelijekaa
