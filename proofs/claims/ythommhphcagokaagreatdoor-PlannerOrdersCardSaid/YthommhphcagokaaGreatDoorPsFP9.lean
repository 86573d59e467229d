/-
  PlannerOrders: whatever the input, the law of this name returns true and its arguments read as before; the table of trailing zeros is tied to the program. No conditions.
-/
import Derived.Test.YthommhphcagokaaGreatDoorTie
import Derived.Test.YthommhphcagokaaGreatDoorCards
import Derived.Test.YthommhphcagokaaGreatDoorPsFP8
set_option linter.all false
set_option maxRecDepth 40000
set_option maxHeartbeats 16000000
namespace Go.Proofs.YthommhphcagokaaGreatDoor
open Go Go.RowKit Cp Go.ChangeShapes Go.WideShapes Go.ChangeAt Go.Proofs.Tryz
theorem Ks(os:Os)(started:os.Started)(H:Type)(enc:TypeId×Value->H):
  ReturnsInHanded {} Tryz.checked os 4 .any (fun w args => (Rows.plannerOrdersSpec.pre enc Tryz.prog Tryz.f4 [] false w args ∧ laidMetH Tryz.prog [("math/bits.deBruijn32tab", Rows.laid_math_bits_deBruijn32tab)] w) ∧ sizedMet enc Tryz.prog Tryz.f4 (OpenSpec.ofChange Rows.plannerOrdersSpec) false w args) (Rows.plannerOrdersSpec.post enc Tryz.prog Tryz.f4 false true false false) := by
 refine returnsInHanded_of_change_and (C := Tryz.checked) (X := fun w _ => laidMetH Tryz.prog [("math/bits.deBruijn32tab", Rows.laid_math_bits_deBruijn32tab)] w) (fun _ _ _ hh h => h.of_heap hh) AGS started BQ Tryz.func4
  (ChangeSpec.witness_shaped (enc := enc) (C := Tryz.checked) (os := os) (X := fun w _ => laidMetH Tryz.prog [("math/bits.deBruijn32tab", Rows.laid_math_bits_deBruijn32tab)] w) false (World.doorLaid Tryz.prog 14 os) #[.slice none 0 0] 8 rfl (World.shaped_of_RefB BQ BQ) BQ BQ BQ (pH os _)) ?_
 intro W base args ds gs before ADn hW AHq _ hL _;have hval:∀(j:Nat) t v,Tryz.f4.params[j]? =some t->args[j]? =some v->Value.okWide Tryz.prog W .any base t v:=ADn;have hW':=hW;obtain⟨p,q,hA0,hV,hpq,hfz,hnd⟩:=hW;have hA:DataW.TrodAll enc Tryz.prog W 0 (fun _=>true) true Tryz.f4.params.toList args.toList ds p:=hA0;have ij:=hA;rw[Tryz.params4]at hA hval;obtain⟨v0,d0,rfl,rfl,h0⟩:=trodAll_one ij;obtain⟨rfl,rfl⟩:=trodVars_none hV;obtain⟨a0,_,e0⟩:=qD (Y5 Tryz.underlying22 Tryz.underlying3 BQ) h0 (by obtain⟨_,_,_,rfl⟩:=okWide_slice Tryz.underlying22 (hval 0 22 v0 rfl rfl);rfl);refine(BM.r6 (Pq) rfl W [v0] (zz hL) ⟨e0,trivial⟩).mono fun e W' ⟨v,he,hv,hb⟩=>?_;subst he;obtain rfl:v= .bool true:=hv;exact⟨_,rfl,jy lC BQ rfl Tryz.underlying4 rfl ij (by rw[hpq];simp) hW' rfl hb⟩
theorem Kt:(Rows.plannerOrdersRow.inPlace==Tryz.pinned.checked.prog.inPlace 4)=true:=by kernel_rfl
theorem Ku:(Rows.plannerOrdersRow.unfollowed==Tryz.pinned.checked.prog.unfollowed 4)=true:=by kernel_rfl
theorem Kv:(Rows.plannerOrdersRow.recurses==Tryz.pinned.checked.prog.recurses 4)=true:=by kernel_rfl
theorem Kw:(Rows.plannerOrdersRow.named==Tryz.pinned.checked.prog.varsNamed 4)=true:=by kernel_rfl
theorem Ld:joinedFacts Tryz.pinned.checked.prog 4 Tryz.f4 Rows.plannerOrdersSpec Rows.plannerOrdersRow=true:=by
 unfold joinedFacts;rw[Kt,Ku,Kv,Kw]
 kernel_rfl
theorem plannerOrders_holds:Rows.PlannerOrdersSaid:=
 OpenClaim.holds_of_wide 4 Tryz.f4 rfl rfl rfl rfl rfl rfl rfl ⟨rfl, rfl, rfl, rfl, rfl⟩ rfl rfl rfl rfl rfl BQ Tryz.func4 Ld
  (of_decide_eq_true BQ) (by unfold Func.isWrapper;first|(rw[if_pos (by decide+kernel)];kernel_rfl)|(rw[if_neg (by decide+kernel)];exact⟨rfl,rfl⟩))
  (fun os started H enc _=>Ks os started H enc)
theorem Ow:Rows.plannerOrdersRow.wfByText (OpenSpec.ofChange Rows.plannerOrdersSpec)=true:=by kernel_rfl
theorem Ox:Tryz.pinned.checked.prog.mainIs=some (Rows.plannerOrdersCard.stood.harness.1,Rows.plannerOrdersCard.stood.harness.2.toList):=by kernel_rfl
theorem Oy : Tryz.prog.funcNamed "cipherplan/cipherplanlaw33.PlannerOrders" = some 4 := by kernel_rfl
theorem Oz:false=Tryz.pinned.checked.prog.looks []:=by kernel_rfl
theorem pI{P:Program}{l:List FuncId}(h:P.funcs.toList.any Func.goes=false):(l.any fun g=>(P.funcs[g]?).any Func.goes)=false:=by
 rw[List.any_eq_false]at h ⊢;intro g _ hg;cases hx:P.funcs[g]? with
 |none=>rw[hx]at hg;exact absurd hg AB
 |some fn=>rw[hx]at hg;exact h fn (Array.mem_toList_iff.2 (Array.mem_of_getElem? hx)) hg
theorem YH{P:Program}(h:P.funcs.toList.any Func.goes=false)(f:FuncId):P.goes f=false:=by
 unfold Program.goes;rw[pI h,←Array.any_toList,h,Bool.and_false];rfl
theorem uy{P:Program}{c:OpenClaim}(h:P.funcs.toList.any Func.goes=false):false=c.goesBy P:=by
 symm
 unfold OpenClaim.goesBy Program.goesAt Program.goesFrom;have h1:∀o:Option FuncId,o.any P.goes=false:=fun o=>by cases o with|none=>rfl|some f=>exact YH h f
 rw[h1,Bool.false_or]
 split
 .rfl
 .rw[List.any_eq_false];intro f _ hf;rw[YH h]at hf;cases hf
theorem O0:false=Rows.plannerOrdersRow.goesBy Tryz.pinned.checked.prog:=uy BQ
theorem O1:([22].all fun u=> !Tryz.prog.wantsStandIn u)=true:=by kernel_rfl
theorem plannerOrders_card_holds:Rows.PlannerOrdersCardSaid:=
 Claim7.holds_tied_plain_at .later [] [.data] true Rows.plannerOrdersCard.stood.harness false plannerOrders_holds (fun _ h => by cases h) Ow (fun _ h => by cases h) plannerOrders_row_tie rfl ⟨rfl, rfl⟩ Ox rfl
  (fun f fn hf hfn=>by
   obtain rfl:f=4:=Option.some.inj (Oy.symm.trans hf)|>.symm
   obtain rfl:fn=Tryz.f4:=(Option.some.inj (Tryz.func4.symm.trans hfn)).symm
   exact⟨Oz,fun j t ht=>by
    rw[Tryz.params4]at ht;have hm:t∈[22]:=by simpa using Array.mem_of_getElem? ht
    exact(show Tryz.prog.wantsStandIn t=false by simpa using List.all_eq_true.1 O1 t hm)⟩)
  O0
end Go.Proofs.YthommhphcagokaaGreatDoor
