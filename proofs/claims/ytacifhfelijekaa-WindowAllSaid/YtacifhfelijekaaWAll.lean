/-
  WindowAll: whatever the input, the law of this name returns true and its arguments read as before. No conditions.
-/
import Derived.Test.YtacifhfelijekaaTypes
import Derived.Test.YtacifhfelijekaaTop
import Derived.Test.YtacifhfelijekaaL30All
namespace Go.Proofs.Ytacifhfelijekaa
open Go Go.RowKit Cp Go.ChangeShapes Go.WideShapes Go.ChangeAt

theorem opens_win : Opens Try.prog 45 (fun _ : Win => True) encWin :=
  (opens_struct Try.underlying45 (by kernel_rfl) (opensF_cons (c := 2) rfl (by kernel_rfl) (opens_struct Try.underlying43 (by kernel_rfl) (opensF_cons (c := 1) rfl (by kernel_rfl) (opens_int Try.underlying3) (opensF_cons (c := 1) rfl (by kernel_rfl) (opens_int Try.underlying3) (opensF_nil _ _)))) (opensF_cons (c := 1) rfl (by kernel_rfl) (opens_ints Try.underlying22 Try.underlying3 (by kernel_rfl)) (opensF_nil _ _)))).map (fun z => Win.mk z.1.1 z.1.2.1 z.2.1) (fun _ _ => trivial) (fun _ => rfl)
theorem opens_cal : Opens Try.prog 27 (fun _ : Cal => True) calRow :=
  (opens_struct Try.underlying27 (by kernel_rfl) (opensF_cons (c := 1) rfl (by kernel_rfl) (opens_slice Try.underlying25 (by kernel_rfl) opens_win) (opensF_cons (c := 1) rfl (by kernel_rfl) (opens_ints Try.underlying22 Try.underlying3 (by kernel_rfl)) (opensF_cons (c := 1) rfl (by kernel_rfl) (opens_ints Try.underlying22 Try.underlying3 (by kernel_rfl)) (opensF_nil _ _))))).map (fun z => Cal.mk z.1 z.2.1 z.2.2.1) (fun _ _ => trivial) (fun _ => rfl)
theorem trodAll_five {H : Type} {enc : TypeId × Value → H} {P : Program} {w : World} {base : Nat} {spare : Nat → Bool} {held : Bool} {t t' t'' t3 t4 : TypeId} {args : Array Value} {ds : List (DataW H)} {ps : List MemPlace} (h : DataW.TrodAll enc P w base spare held [t, t', t'', t3, t4] args.toList ds ps) :
    ∃ v v' v'' v3 v4 d d' d'' d3 d4 p p' p'' p3 p4, args = #[v, v', v'', v3, v4] ∧ ds = [d, d', d'', d3, d4] ∧ ps = p ++ p' ++ p'' ++ p3 ++ p4 ∧ DataW.Trod enc P w base spare held t v d p ∧ DataW.Trod enc P w base spare held t' v' d' p' ∧ DataW.Trod enc P w base spare held t'' v'' d'' p'' ∧ DataW.Trod enc P w base spare held t3 v3 d3 p3 ∧ DataW.Trod enc P w base spare held t4 v4 d4 p4 := by
  obtain ⟨v, vs, d, ds', p, q, hargs, rfl, rfl, hd, hrest⟩ := trodAll_cons h
  obtain ⟨v', vs', d', ds'', p', q', rfl, rfl, rfl, hd', hrest'⟩ := trodAll_cons hrest
  obtain ⟨v'', vs'', d'', ds''', p'', q'', rfl, rfl, rfl, hd'', hrest''⟩ := trodAll_cons hrest'
  obtain ⟨v3, vs3, d3, ds3, p3, q3, rfl, rfl, rfl, hd3, hrest3⟩ := trodAll_cons hrest''
  obtain ⟨v4, vs4, d4, ds4, p4, q4, rfl, rfl, rfl, hd4, hrest4⟩ := trodAll_cons hrest3
  obtain ⟨rfl, rfl, rfl⟩ := trodAll_nil hrest4
  exact ⟨v, v', v'', v3, v4, d, d', d'', d3, d4, p, p', p'', p3, p4, by cases args; simp_all, rfl, by simp, hd, hd', hd'', hd3, hd4⟩

theorem windowAll_lifted (os : Os) (started : os.Started) (H : Type) (enc : TypeId × Value → H) :
    ReturnsInHanded {} Try.checked os 7 .any (Rows.windowAllSpec.pre6 enc Try.prog Try.f7 Rows.windowAllRow.domain false) (Rows.windowAllSpec.post enc Try.prog Try.f7 false true false false) := by
  refine returnsInHanded_of_change (C := Try.checked) own0 started (by kernel_rfl) Try.func7
    (ChangeSpec.witness6 (enc := enc) (C := Try.checked) false ⟨#[], #[.slice none 0 0, .agg #[.slice none 0 0, .slice none 0 0, .slice none 0 0], .slice none 0 0, .slice none 0 0, .int .i64 0], []⟩ 8 (by kernel_rfl) (by kernel_rfl) (by kernel_rfl) (by kernel_rfl)) ?_
  intro W base args ds gs before hval0 hW hcnd _
  have hval : ∀ (j : Nat) t v, Try.f7.params[j]? = some t → args[j]? = some v → Value.okWide Try.prog W .any base t v := hval0
  have hW' := hW
  obtain ⟨p, q, hA0, hV, hpq, hfz, hnd⟩ := hW
  have hA : DataW.TrodAll enc Try.prog W 0 (fun _ => true) true Try.f7.params.toList args.toList ds p := hA0
  have hA' := hA
  rw [Try.params7] at hA hval
  obtain ⟨v0, v1, v2, v3, v4, d0, d1, d2, d3, d4, p0, p1, p2, p3, p4, rfl, rfl, hp, h0, h1, h2, h3, h4⟩ := trodAll_five hA
  obtain ⟨rfl, rfl⟩ := trodVars_none hV
  obtain ⟨a0, _, e0⟩ := arg_one (opens_ints Try.underlying22 Try.underlying3 (by kernel_rfl)) h0 (by obtain ⟨_, _, _, rfl⟩ := okWide_slice Try.underlying22 (hval 0 22 v0 rfl rfl); rfl)
  obtain ⟨a1, _, e1⟩ := arg_agg (opens_cal) h1 (by obtain ⟨cs, rfl, _⟩ := okWide_struct Try.underlying27 (hval 1 27 v1 rfl rfl); exact ⟨_, rfl⟩)
  obtain ⟨a2, _, e2⟩ := arg_one (opens_ints Try.underlying22 Try.underlying3 (by kernel_rfl)) h2 (by obtain ⟨_, _, _, rfl⟩ := okWide_slice Try.underlying22 (hval 2 22 v2 rfl rfl); rfl)
  obtain ⟨a3, _, e3⟩ := arg_one (opens_ints Try.underlying22 Try.underlying3 (by kernel_rfl)) h3 (by obtain ⟨_, _, _, rfl⟩ := okWide_slice Try.underlying22 (hval 3 22 v3 rfl rfl); rfl)
  obtain ⟨a4, _, e4⟩ := arg_one (opens_int Try.underlying3) h4 (by obtain ⟨_, rfl⟩ := okWide_int Try.underlying3 (hval 4 3 v4 rfl rfl); rfl)
  refine ((w_WindowAll).2 noM W [v0, v1, v2, v3, v4] (noM_bd W) ⟨e0, e1, e2, e3, e4, trivial⟩).mono fun e W' ⟨v, he, hv, hb⟩ => ?_
  subst he
  obtain rfl : v = .bool true := hv
  exact ⟨_, rfl, law_post laidOut0 (by kernel_rfl) rfl Try.underlying4 rfl hA' (by rw [hpq]; simp) hW' rfl hb⟩
theorem windowAll_holds : Rows.WindowAllSaid :=
  OpenClaim.holds_of_wide 7 Try.f7 rfl rfl rfl rfl rfl rfl rfl ⟨rfl, rfl, rfl, rfl, rfl⟩ rfl rfl rfl rfl rfl (by kernel_rfl) Try.func7 (by kernel_rfl)
    (of_decide_eq_true (by kernel_rfl)) (by unfold Func.isWrapper; first | (rw [if_pos (by decide +kernel)]; kernel_rfl) | (rw [if_neg (by decide +kernel)]; exact ⟨rfl, rfl⟩))
    (fun os started H enc _ => windowAll_lifted os started H enc)
end Go.Proofs.Ytacifhfelijekaa
