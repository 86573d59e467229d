/-
  AssetConflicts: whatever the input, the law of this name returns true and its arguments read as before. No conditions.
-/
import Derived.Test.YthmnoekgicggnaaGreatTypes
import Derived.Test.YthmnoekgicggnaaGreatSlices
import Derived.Test.YthmnoekgicggnaaGreatAssetI
import Derived.Test.YthmnoekgicggnaaGreatCoreN
import Derived.Test.YthmnoekgicggnaaGreatTop
namespace Go.Proofs.YthmnoekgicggnaaGreat
open Go Go.RowKit Cp Go.ChangeShapes Go.WideShapes Go.ChangeAt
set_option maxRecDepth 40000 in
theorem assetConflicts_lifted (os : Os) (started : os.Started) (H : Type) (enc : TypeId × Value → H) :
    ReturnsInHanded {} Tryz.checked os 5 .any (Rows.assetConflictsSpec.pre6 enc Tryz.prog Tryz.f5 Rows.assetConflictsRow.domain false) (Rows.assetConflictsSpec.post enc Tryz.prog Tryz.f5 false true false false) := by
  refine returnsInHanded_of_change (C := Tryz.checked) own0 started (by kernel_rfl) Tryz.func5
    (ChangeSpec.witness6 (enc := enc) (C := Tryz.checked) false ⟨#[], #[.slice none 0 0, .int .u8 0, .int .u8 0], []⟩ 8 (by kernel_rfl) (by kernel_rfl) (by kernel_rfl) (by kernel_rfl)) ?_
  intro W base args ds gs before hval0 hW hcnd _
  have hval : ∀ (j : Nat) t v, Tryz.f5.params[j]? = some t → args[j]? = some v → Value.okWide Tryz.prog W .any base t v := hval0
  have hW' := hW
  obtain ⟨p, q, hA0, hV, hpq, hfz, hnd⟩ := hW
  have hA : DataW.TrodAll enc Tryz.prog W 0 (fun _ => true) true Tryz.f5.params.toList args.toList ds p := hA0
  have hA' := hA
  rw [Tryz.params5] at hA hval
  obtain ⟨v0, v1, v2, d0, d1, d2, p0, p1, p2, rfl, rfl, hp, h0, h1, h2⟩ := trodAll_three hA
  obtain ⟨rfl, rfl⟩ := trodVars_none hV
  obtain ⟨a0, _, e0⟩ := arg_one (opens_ints Tryz.underlying22 Tryz.underlying3 (by kernel_rfl)) h0 (by obtain ⟨_, _, _, rfl⟩ := okWide_slice Tryz.underlying22 (hval 0 22 v0 rfl rfl); rfl)
  obtain ⟨a1, hra, e1⟩ := arg_one (opens_int Tryz.underlying5) h1 (by obtain ⟨_, rfl⟩ := okWide_int Tryz.underlying5 (hval 1 5 v1 rfl rfl); rfl)
  obtain ⟨a2, hrb, e2⟩ := arg_one (opens_int Tryz.underlying5) h2 (by obtain ⟨_, rfl⟩ := okWide_int Tryz.underlying5 (hval 2 5 v2 rfl rfl); rfl)
  refine ((w_AssetConflicts (u8_in hra) (u8_in hrb)).2 noM W [v0, v1, v2] (noM_bd W) ⟨e0, e1, e2, trivial⟩).mono fun e W' ⟨v, he, hv, hb⟩ => ?_
  subst he
  obtain rfl : v = .bool true := hv
  exact ⟨_, rfl, law_post laidOut0 (by kernel_rfl) rfl Tryz.underlying4 rfl hA' (by rw [hpq]; simp) hW' rfl hb⟩
set_option maxRecDepth 40000 in
theorem assetConflicts_holds : Rows.AssetConflictsSaid :=
  OpenClaim.holds_of_wide 5 Tryz.f5 rfl rfl rfl rfl rfl rfl rfl ⟨rfl, rfl, rfl, rfl, rfl⟩ rfl rfl rfl rfl rfl (by kernel_rfl) Tryz.func5 (by kernel_rfl)
    (of_decide_eq_true (by kernel_rfl)) (by unfold Func.isWrapper; first | (rw [if_pos (by decide +kernel)]; kernel_rfl) | (rw [if_neg (by decide +kernel)]; exact ⟨rfl, rfl⟩))
    (fun os started H enc _ => assetConflicts_lifted os started H enc)
end Go.Proofs.YthmnoekgicggnaaGreat
