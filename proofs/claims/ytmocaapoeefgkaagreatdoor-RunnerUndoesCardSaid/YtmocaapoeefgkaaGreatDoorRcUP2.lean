/-
  Part 2 of the texts that prove this claim, merged.
-/
import Derived.ChangeArms
import Derived.OpenShut
import Derived.ChangeSame
import Derived.RowKit
import Derived.ProofKit
import Derived.Laws.MakeOwn
import Derived.Test.YtmocaapoeefgkaaGreatDoorProg
import Derived.KernelRfl
import Derived.Lib.ConvBytes
import Derived.Lib.Bytealg
import Derived.Laws.StructEq
import Derived.Laws.Externs
import Derived.Lib.AtoiErrMem
import Derived.Laws.IdiomRangeMap
import Derived.Sort.LotA
import Derived.Sort.LotB
import Derived.Sort.LotC
import Derived.Lib.AppendZeros
import Derived.Lib.AppendZerosOnto
import Derived.Test.YtmocaapoeefgkaaGreatDoorRcUP1
set_option linter.all false
set_option maxRecDepth 40000
set_option maxHeartbeats 16000000
namespace Cp
open Go Go.RowKit Go.Great Go.ChangeShapes Go.WideShapes
def noM:Av:=fun _ _=>False
theorem wu (w:World):Bd noM w:=fun _ _ h=>h.elim
def Mo (P:Program) (t:TypeId) {α:Type} (ok:α→Prop) (f:α→List Pr):Prop:=
 ∀(H:Type) (enc:TypeId×Value→H) (w:World) (fuel:Nat) (cs:List Value) (x:DataW H×List MemPlace),DataW.trod enc P w 0 (fun _=>true) true fuel t cs=some x→∃a,ok a∧HL noM w (f a) cs∧∀c∈cs,c.oneCell'=true
theorem Mo.map {P:Program} {t:TypeId} {α β:Type} {ok:α→Prop} {f:α→List Pr} {ok':β→Prop} {f':β→List Pr} (h:Mo P t ok f) (g:α→β) (h1:∀a,ok a→ok' (g a)) (h2:∀a,f' (g a)=f a):Mo P t ok' f':=by
 intro H enc w fuel cs x hx
 obtain ⟨a,h3,h4,h5⟩:=h H enc w fuel cs x hx
 exact ⟨g a,h1 a h3,by rw [h2];exact h4,h5⟩
theorem fu {P:Program} {t:TypeId} {k:IntKind} (ht:P.underlying t=some (.int k)):Mo P t (fun n:Int=>(Lit.int k n).wf=true) (fun n=>[is (.int k n)]):=by
 intro H enc w fuel cs x hx
 obtain ⟨n,rfl,_,hw⟩:=DataW.trod_int ht hx
 exact ⟨n,hw,⟨rfl,trivial⟩,by simp [Value.oneCell']⟩
theorem HL.len {M:Av} {w:World}:∀{ps:List Pr} {vs:List Value},HL M w ps vs→ps.length=vs.length
 |[],[],_=>rfl
 |p::ps,v::vs,h=>by simp [HL.len h.2]
 |[],_::_,h=>h.elim
 |_::_,[],h=>h.elim
theorem HL.nth {M:Av} {w:World}:∀{ps:List Pr} {vs:List Value} (j:Nat) (p:Pr),HL M w ps vs→ps[j]? =some p→∃v,vs[j]? =some v∧p.h M w v
 |p::ps,v::vs,0,q,h,hj=>by simp at hj;subst hj;exact ⟨v,rfl,h.1⟩
 |p::ps,v::vs,j+1,q,h,hj=>by simpa using HL.nth j q h.2 GP
 |[],[],_,_,_,hj=>by simp at hj
 |[],_::_,_,_,h,_=>h.elim
 |_::_,[],_,_,h,_=>h.elim
theorem Q2 {H:Type} {enc:TypeId×Value→H} {P:Program} {w:World} {e:TypeId} {α:Type} {ok:α→Prop} {f:α→List Pr} (he:Mo P e ok f) {sz:Nat} (hc:P.cellsOf e=sz) {a:Addr} {m:Nat}:
  ∀(len:Nat),(∀i,i<len→∃y,(w.cells? 0 (a.add (i*sz)) sz).bind (DataW.trod enc P w 0 (fun _=>true) true m e)=some y)→
   ∃l:List α,l.length=len∧(∀z∈l,ok z)∧∀(i:Nat) z,l[i]? =some z→(f z).length=sz∧Row noM w a (i*sz) (f z)
 |0,_=>⟨[],rfl,by simp,by simp⟩
 |len+1,h=>by
  obtain ⟨l,h1,h2,h3⟩:=Q2 he hc len (fun i hi=>h i AA)
  obtain ⟨y,hy⟩:=h len AA
  obtain ⟨cs,hcs,hy⟩:=Option.bind_eq_some_iff.1 hy
  obtain ⟨z,hz,hl,h1c⟩:=he H enc w m cs y hy
  obtain ⟨_,hlen,hat⟩:=World.cells?_some hcs
  refine ⟨l++[z],by simp [h1],?_,fun i u hu=> ?_⟩
  ·
   intro u hu
   rcases List.mem_append.1 hu with hu|hu
   · exact h2 u hu
   · rw [List.mem_singleton.1 hu];exact hz
  ·
   rcases Nat.lt_trichotomy i len with hi|hi|hi
   ·
    rw [List.getElem?_append_left AA] at hu
    exact h3 i u hu
   ·
    subst hi
    rw [List.getElem?_append_right AA,h1] at hu
    simp at hu;subst hu
    have hfl:(f z).length=sz:=by rw [hl.len,hlen]
    refine ⟨hfl,fun j p hp=> ?_⟩
    obtain ⟨v,hv,kK⟩:=hl.nth j p hp
    have hj:j<sz:=by
     rcases Nat.lt_or_ge j (f z).length with h'|h'
     · omega
     · rw [List.getElem?_eq_none h'] at hp;cases hp
    refine ⟨v,?_,fun hf=>hf,h1c v (List.mem_of_getElem? hv),kK⟩
    rw [←hv,←hat j hj]
    rw [add_add]
   · rw [List.getElem?_eq_none (by simp [h1];omega)] at hu;cases hu
theorem Wm {P:Program} {t e:TypeId} {α:Type} {ok:α→Prop} {f:α→List Pr} {sz:Nat} (ht:P.underlying t=some (.slice e)) (hc:P.cellsOf e=sz) (he:Mo P e ok f):
  Mo P t (fun l:List α=>(∀z∈l,ok z)∧l.length≤maxLen) (fun l=>[slice sz (l.map f)]):=by
 intro H enc w fuel cs x hx
 rcases DataW.trod_slice ht hx with ⟨rfl,_⟩|⟨a,len,cap,elems,rest,n,rfl,rfl,_,_,hl,hm,hel,hat,_⟩
 · exact ⟨[],⟨by simp,by simp⟩,⟨⟨none,0,rfl,by simp,by simp,fun _=>rfl,by simp⟩,trivial⟩,by simp [Value.oneCell']⟩
 ·
  obtain ⟨l,h1,h2,h3⟩:=Q2 (H:=H) (enc:=enc) (w:=w) (a:=a) (m:=n) he hc len (fun i hi=>by
   have:=hat i hi
   rw [hc] at this
   rw [this,List.getElem?_eq_getElem AA]
   exact ⟨_,rfl⟩)
  refine ⟨l,⟨h2,by omega⟩,⟨⟨some a,cap,by simp [h1],by simp;omega,hm,by simp,fun i row hr=> ?_⟩,trivial⟩,by simp [Value.oneCell']⟩
  rw [List.getElem?_map] at hr
  cases hz:l[i]? with
  |none=>rw [hz] at hr;cases hr
  |some z=>
   rw [hz] at hr;simp at hr;subst hr
   obtain ⟨h4,h5⟩:=h3 i z hz
   exact ⟨h4,a,rfl,h5⟩
theorem rH {H:Type} {enc:TypeId×Value→H} {P:Program} {w:World} {t:TypeId} {α:Type} {ok:α→Prop} {p:α→Pr} (ho:Mo P t ok (fun a=>[p a])) {v:Value} {d:DataW H} {ps:List MemPlace} (h:DataW.Trod enc P w 0 (fun _=>true) true t v d ps) (hv:v.cells= #[v]):
  ∃a,ok a∧(p a).h noM w v:=by
 obtain ⟨fuel,hf⟩:=h
 obtain ⟨a,h1,h2,_⟩:=ho _ _ _ _ _ _ hf
 rw [hv] at h2
 exact ⟨a,h1,h2.1⟩
theorem LW {H:Type} {enc:TypeId×Value→H} {P:Program} (hl:laidOutB P=true) {W W':World} (hb:Below W.heap.size W W'):
  ∀{ts:List TypeId} {vs:List Value} {ds:List (DataW H)} {ps:List MemPlace},ts.all (fun t=>P.readableRec t&&decide (t<P.types.size))=true→DataW.TrodAll enc P W 0 (fun _=>true) true ts vs ds ps→(∀x∈ps,x.block<W.heap.size)→
   DataW.TrodAll enc P W' 0 (fun b=>decide (b<W.heap.size)) true ts vs ds ps
 |[],vs,ds,ps,_,h,_=>by
  obtain ⟨rfl,rfl,rfl⟩:=trodAll_nil h
  rfl
 |t::ts,vs,ds,ps,hr,h,hlt=>by
  obtain ⟨v,vs',d,ds',p,q,rfl,rfl,rfl,h1,h2⟩:=trodAll_cons h
  simp only [List.all_cons,Bool.and_eq_true,decide_eq_true_eq] at hr
  exact ⟨p,q,Below.trod hl hr.1.1 hr.1.2 h1 hb (fun x hx=>hlt x (List.mem_append_left _ hx)),LW hl hb (by simpa using hr.2) h2 (fun x hx=>hlt x (List.mem_append_right _ hx)),rfl⟩
theorem kj {H:Type} {enc:TypeId×Value→H} {P:Program} {fn:Func} {s:ChangeSpec} {W W':World} {args:Array Value} {ds gs:List (DataW H)} {before p:List MemPlace} {tb:TypeId} (hl:laidOutB P=true)
  (hr:fn.params.toList.all (fun t=>P.readableRec t&&decide (t<P.types.size))=true) (hres:fn.resultTypes= #[tb]) (hb:P.underlying tb=some .bool) (hs:s.vars=[])
  (hA:DataW.TrodAll enc P W 0 (fun _=>true) true fn.params.toList args.toList ds p) (hp:before=p) (hW:DataW.Whole enc P fn.params.toList s.vars false W args.toList ds gs before)
  (hf:s.fn H (ds++gs)={ results:=[.lit (.bool true)],args:=ds }) (ko:Below W.heap.size W W'):s.post enc P fn false true false false W args (.bool true) W':=by
 subst hp
 refine ⟨ds,gs,before,[],before,[],hW,?_,?_,?_,ko.frame _,fun h=>by cases h⟩
 · rw [hf,hres];exact trodAll_mk1 (shut_bool hb _)
 · rw [hf];exact LW hl ko hr hA (fun x hx=>by simpa using hW.lt x hx)
 · rw [hf,hs];rfl
end Cp
namespace Cp
open Go Go.RowKit Go.Great
section
variable {P:Program} {L:Lg P} {n:Fm} {fz:Nat} {E:Env} {I:Ck} {Q:Exit→Act→World→Prop}
theorem Tr.J4 {α0:Type} (K:Env) (hK:CU E K) (F:α0→Env) (Ii:α0→Ck) (C:α0→Prop) (μ:α0→Nat) {c:Code} (I3:α0)  (h0:C I3) (hs:CU E (F I3)) (hI:∀M w,I.h M w→(Ii I3).h M w)
  (round:∀x0,C x0→Tr L n (F x0++K) (Ii x0) c (Exit.then (fun a w=>∃D5,(C D5∧μ D5<μ x0)∧St n (F D5++K) (Ii D5) a w) Q)):Tr L n E I (.loop c) Q:=
 Tr.Mi K hK (fun y:α0=>F y) (fun y=>Ii y) (fun y=>C y) (fun y=>μ y) I3 h0 hs hI fun y hy=>
  Tr.post (round y hy) fun e a w h=>by
   cases e<;>first|exact h|(obtain ⟨D5,h1,h2⟩:=h;exact ⟨D5,h1,h2⟩)
theorem Fin.Kr {α0:Type} {E1:α0→Env} {I1:α0→Ck} {C:α0→Prop} (x0:α0)  (hC:C x0) (hs:CU E (E1 x0)) (hI:∀M w,I.h M w→(I1 x0).h M w):
  Fin n E I (Exit.then (fun a w=>∃D5,C D5∧St n (E1 D5) (I1 D5) a w) Q) .normal:=fun _ _ hst=>⟨x0,hC,hst.sub hs hI⟩
theorem Tr.Wn {α0:Type} (K:Env) (hK:CU E K) (F:α0→Value→Env) (Ii:α0→Value→Ck) (C:α0→Prop) (μ:α0→Nat) {c:Code} (I3:α0) (VC:Value) (h0:C I3) (hs:CU E (F I3 VC)) (hI:∀M w,I.h M w→(Ii I3 VC).h M w)
  (round:∀x0 v0,C x0→Tr L n (F x0 v0++K) (Ii x0 v0) c (Exit.then (fun a w=>∃D5 I4,(C D5∧μ D5<μ x0)∧St n (F D5 I4++K) (Ii D5 I4) a w) Q)):Tr L n E I (.loop c) Q:=
 Tr.Mi K hK (fun y:α0×Value=>F y.1 y.2) (fun y=>Ii y.1 y.2) (fun y=>C y.1) (fun y=>μ y.1) (I3,VC) h0 hs hI fun y hy=>
  Tr.post (round y.1 y.2 hy) fun e a w h=>by
   cases e<;>first|exact h|(obtain ⟨D5,I4,h1,h2⟩:=h;exact ⟨(D5,I4),h1,h2⟩)
theorem Fin.cQ {α0:Type} {E1:α0→Value→Env} {I1:α0→Value→Ck} {C:α0→Prop} (x0:α0) (v0:Value) (hC:C x0) (hs:CU E (E1 x0 v0)) (hI:∀M w,I.h M w→(I1 x0 v0).h M w):
  Fin n E I (Exit.then (fun a w=>∃D5 I4,C D5∧St n (E1 D5 I4) (I1 D5 I4) a w) Q) .normal:=fun _ _ hst=>⟨x0,v0,hC,hst.sub hs hI⟩
theorem Tr.DD {α0 α1:Type} (K:Env) (hK:CU E K) (F:α0→α1→Env) (Ii:α0→α1→Ck) (C:α0→α1→Prop) (μ:α0→α1→Nat) {c:Code} (I3:α0) (Mp:α1)  (h0:C I3 Mp) (hs:CU E (F I3 Mp)) (hI:∀M w,I.h M w→(Ii I3 Mp).h M w)
  (round:∀x0 x1,C x0 x1→Tr L n (F x0 x1++K) (Ii x0 x1) c (Exit.then (fun a w=>∃D5 E8,(C D5 E8∧μ D5 E8<μ x0 x1)∧St n (F D5 E8++K) (Ii D5 E8) a w) Q)):Tr L n E I (.loop c) Q:=
 Tr.Mi K hK (fun y:α0×α1=>F y.1 y.2) (fun y=>Ii y.1 y.2) (fun y=>C y.1 y.2) (fun y=>μ y.1 y.2) (I3,Mp) h0 hs hI fun y hy=>
  Tr.post (round y.1 y.2 hy) fun e a w h=>by
   cases e<;>first|exact h|(obtain ⟨D5,E8,h1,h2⟩:=h;exact ⟨(D5,E8),h1,h2⟩)
theorem Fin.DK {α0 α1:Type} {E1:α0→α1→Env} {I1:α0→α1→Ck} {C:α0→α1→Prop} (x0:α0) (x1:α1)  (hC:C x0 x1) (hs:CU E (E1 x0 x1)) (hI:∀M w,I.h M w→(I1 x0 x1).h M w):
  Fin n E I (Exit.then (fun a w=>∃D5 E8,C D5 E8∧St n (E1 D5 E8) (I1 D5 E8) a w) Q) .normal:=fun _ _ hst=>⟨x0,x1,hC,hst.sub hs hI⟩
theorem Tr.DE {α0 α1:Type} (K:Env) (hK:CU E K) (F:α0→α1→Value→Env) (Ii:α0→α1→Value→Ck) (C:α0→α1→Prop) (μ:α0→α1→Nat) {c:Code} (I3:α0) (Mp:α1) (VC:Value) (h0:C I3 Mp) (hs:CU E (F I3 Mp VC)) (hI:∀M w,I.h M w→(Ii I3 Mp VC).h M w)
  (round:∀x0 x1 v0,C x0 x1→Tr L n (F x0 x1 v0++K) (Ii x0 x1 v0) c (Exit.then (fun a w=>∃D5 E8 I4,(C D5 E8∧μ D5 E8<μ x0 x1)∧St n (F D5 E8 I4++K) (Ii D5 E8 I4) a w) Q)):Tr L n E I (.loop c) Q:=
 Tr.Mi K hK (fun y:α0×α1×Value=>F y.1 y.2.1 y.2.2) (fun y=>Ii y.1 y.2.1 y.2.2) (fun y=>C y.1 y.2.1) (fun y=>μ y.1 y.2.1) (I3,Mp,VC) h0 hs hI fun y hy=>
  Tr.post (round y.1 y.2.1 y.2.2 hy) fun e a w h=>by
   cases e<;>first|exact h|(obtain ⟨D5,E8,I4,h1,h2⟩:=h;exact ⟨(D5,E8,I4),h1,h2⟩)
theorem Fin.Bl {α0 α1:Type} {E1:α0→α1→Value→Env} {I1:α0→α1→Value→Ck} {C:α0→α1→Prop} (x0:α0) (x1:α1) (v0:Value) (hC:C x0 x1) (hs:CU E (E1 x0 x1 v0)) (hI:∀M w,I.h M w→(I1 x0 x1 v0).h M w):
  Fin n E I (Exit.then (fun a w=>∃D5 E8 I4,C D5 E8∧St n (E1 D5 E8 I4) (I1 D5 E8 I4) a w) Q) .normal:=fun _ _ hst=>⟨x0,x1,v0,hC,hst.sub hs hI⟩
theorem Tr.Q3 {α0 α1 α2:Type} (K:Env) (hK:CU E K) (F:α0→α1→α2→Env) (Ii:α0→α1→α2→Ck) (C:α0→α1→α2→Prop) (μ:α0→α1→α2→Nat) {c:Code} (I3:α0) (Mp:α1) (VD:α2)  (h0:C I3 Mp VD) (hs:CU E (F I3 Mp VD)) (hI:∀M w,I.h M w→(Ii I3 Mp VD).h M w)
  (round:∀x0 x1 x2,C x0 x1 x2→Tr L n (F x0 x1 x2++K) (Ii x0 x1 x2) c (Exit.then (fun a w=>∃D5 E8 H8,(C D5 E8 H8∧μ D5 E8 H8<μ x0 x1 x2)∧St n (F D5 E8 H8++K) (Ii D5 E8 H8) a w) Q)):Tr L n E I (.loop c) Q:=
 Tr.Mi K hK (fun y:α0×α1×α2=>F y.1 y.2.1 y.2.2) (fun y=>Ii y.1 y.2.1 y.2.2) (fun y=>C y.1 y.2.1 y.2.2) (fun y=>μ y.1 y.2.1 y.2.2) (I3,Mp,VD) h0 hs hI fun y hy=>
  Tr.post (round y.1 y.2.1 y.2.2 hy) fun e a w h=>by
   cases e<;>first|exact h|(obtain ⟨D5,E8,H8,h1,h2⟩:=h;exact ⟨(D5,E8,H8),h1,h2⟩)
theorem Fin.GV {α0 α1 α2:Type} {E1:α0→α1→α2→Env} {I1:α0→α1→α2→Ck} {C:α0→α1→α2→Prop} (x0:α0) (x1:α1) (x2:α2)  (hC:C x0 x1 x2) (hs:CU E (E1 x0 x1 x2)) (hI:∀M w,I.h M w→(I1 x0 x1 x2).h M w):
  Fin n E I (Exit.then (fun a w=>∃D5 E8 H8,C D5 E8 H8∧St n (E1 D5 E8 H8) (I1 D5 E8 H8) a w) Q) .normal:=fun _ _ hst=>⟨x0,x1,x2,hC,hst.sub hs hI⟩
theorem Tr.Fc {α0 α1 α2:Type} (K:Env) (hK:CU E K) (F:α0→α1→α2→Value→Env) (Ii:α0→α1→α2→Value→Ck) (C:α0→α1→α2→Prop) (μ:α0→α1→α2→Nat) {c:Code} (I3:α0) (Mp:α1) (VD:α2) (VC:Value) (h0:C I3 Mp VD) (hs:CU E (F I3 Mp VD VC)) (hI:∀M w,I.h M w→(Ii I3 Mp VD VC).h M w)
  (round:∀x0 x1 x2 v0,C x0 x1 x2→Tr L n (F x0 x1 x2 v0++K) (Ii x0 x1 x2 v0) c (Exit.then (fun a w=>∃D5 E8 H8 I4,(C D5 E8 H8∧μ D5 E8 H8<μ x0 x1 x2)∧St n (F D5 E8 H8 I4++K) (Ii D5 E8 H8 I4) a w) Q)):Tr L n E I (.loop c) Q:=
 Tr.Mi K hK (fun y:α0×α1×α2×Value=>F y.1 y.2.1 y.2.2.1 y.2.2.2) (fun y=>Ii y.1 y.2.1 y.2.2.1 y.2.2.2) (fun y=>C y.1 y.2.1 y.2.2.1) (fun y=>μ y.1 y.2.1 y.2.2.1) (I3,Mp,VD,VC) h0 hs hI fun y hy=>
  Tr.post (round y.1 y.2.1 y.2.2.1 y.2.2.2 hy) fun e a w h=>by
   cases e<;>first|exact h|(obtain ⟨D5,E8,H8,I4,h1,h2⟩:=h;exact ⟨(D5,E8,H8,I4),h1,h2⟩)
theorem Fin.EP {α0 α1 α2:Type} {E1:α0→α1→α2→Value→Env} {I1:α0→α1→α2→Value→Ck} {C:α0→α1→α2→Prop} (x0:α0) (x1:α1) (x2:α2) (v0:Value) (hC:C x0 x1 x2) (hs:CU E (E1 x0 x1 x2 v0)) (hI:∀M w,I.h M w→(I1 x0 x1 x2 v0).h M w):
  Fin n E I (Exit.then (fun a w=>∃D5 E8 H8 I4,C D5 E8 H8∧St n (E1 D5 E8 H8 I4) (I1 D5 E8 H8 I4) a w) Q) .normal:=fun _ _ hst=>⟨x0,x1,x2,v0,hC,hst.sub hs hI⟩
theorem Tr.kr {α0 α1 α2 α3:Type} (K:Env) (hK:CU E K) (F:α0→α1→α2→α3→Value→Env) (Ii:α0→α1→α2→α3→Value→Ck) (C:α0→α1→α2→α3→Prop) (μ:α0→α1→α2→α3→Nat) {c:Code} (I3:α0) (Mp:α1) (VD:α2) (x3s:α3) (VC:Value) (h0:C I3 Mp VD x3s) (hs:CU E (F I3 Mp VD x3s VC)) (hI:∀M w,I.h M w→(Ii I3 Mp VD x3s VC).h M w)
  (round:∀x0 x1 x2 x3 v0,C x0 x1 x2 x3→Tr L n (F x0 x1 x2 x3 v0++K) (Ii x0 x1 x2 x3 v0) c (Exit.then (fun a w=>∃D5 E8 H8 Sq I4,(C D5 E8 H8 Sq∧μ D5 E8 H8 Sq<μ x0 x1 x2 x3)∧St n (F D5 E8 H8 Sq I4++K) (Ii D5 E8 H8 Sq I4) a w) Q)):Tr L n E I (.loop c) Q:=
 Tr.Mi K hK (fun y:α0×α1×α2×α3×Value=>F y.1 y.2.1 y.2.2.1 y.2.2.2.1 y.2.2.2.2) (fun y=>Ii y.1 y.2.1 y.2.2.1 y.2.2.2.1 y.2.2.2.2) (fun y=>C y.1 y.2.1 y.2.2.1 y.2.2.2.1) (fun y=>μ y.1 y.2.1 y.2.2.1 y.2.2.2.1) (I3,Mp,VD,x3s,VC) h0 hs hI fun y hy=>
  Tr.post (round y.1 y.2.1 y.2.2.1 y.2.2.2.1 y.2.2.2.2 hy) fun e a w h=>by
   cases e<;>first|exact h|(obtain ⟨D5,E8,H8,Sq,I4,h1,h2⟩:=h;exact ⟨(D5,E8,H8,Sq,I4),h1,h2⟩)
theorem Fin.rI {α0 α1 α2 α3:Type} {E1:α0→α1→α2→α3→Value→Env} {I1:α0→α1→α2→α3→Value→Ck} {C:α0→α1→α2→α3→Prop} (x0:α0) (x1:α1) (x2:α2) (x3:α3) (v0:Value) (hC:C x0 x1 x2 x3) (hs:CU E (E1 x0 x1 x2 x3 v0)) (hI:∀M w,I.h M w→(I1 x0 x1 x2 x3 v0).h M w):
  Fin n E I (Exit.then (fun a w=>∃D5 E8 H8 Sq I4,C D5 E8 H8 Sq∧St n (E1 D5 E8 H8 Sq I4) (I1 D5 E8 H8 Sq I4) a w) Q) .normal:=fun _ _ hst=>⟨x0,x1,x2,x3,v0,hC,hst.sub hs hI⟩
theorem Tr.ku {α0 α1 α2 α3:Type} (K:Env) (hK:CU E K) (F:α0→α1→α2→α3→Value→Value→Env) (Ii:α0→α1→α2→α3→Value→Value→Ck) (C:α0→α1→α2→α3→Prop) (μ:α0→α1→α2→α3→Nat) {c:Code} (I3:α0) (Mp:α1) (VD:α2) (x3s:α3) (VC:Value) (v1s:Value) (h0:C I3 Mp VD x3s) (hs:CU E (F I3 Mp VD x3s VC v1s)) (hI:∀M w,I.h M w→(Ii I3 Mp VD x3s VC v1s).h M w)
  (round:∀x0 x1 x2 x3 v0 v1,C x0 x1 x2 x3→Tr L n (F x0 x1 x2 x3 v0 v1++K) (Ii x0 x1 x2 x3 v0 v1) c (Exit.then (fun a w=>∃D5 E8 H8 Sq I4 v1',(C D5 E8 H8 Sq∧μ D5 E8 H8 Sq<μ x0 x1 x2 x3)∧St n (F D5 E8 H8 Sq I4 v1'++K) (Ii D5 E8 H8 Sq I4 v1') a w) Q)):Tr L n E I (.loop c) Q:=
 Tr.Mi K hK (fun y:α0×α1×α2×α3×Value×Value=>F y.1 y.2.1 y.2.2.1 y.2.2.2.1 y.2.2.2.2.1 y.2.2.2.2.2) (fun y=>Ii y.1 y.2.1 y.2.2.1 y.2.2.2.1 y.2.2.2.2.1 y.2.2.2.2.2) (fun y=>C y.1 y.2.1 y.2.2.1 y.2.2.2.1) (fun y=>μ y.1 y.2.1 y.2.2.1 y.2.2.2.1) (I3,Mp,VD,x3s,VC,v1s) h0 hs hI fun y hy=>
  Tr.post (round y.1 y.2.1 y.2.2.1 y.2.2.2.1 y.2.2.2.2.1 y.2.2.2.2.2 hy) fun e a w h=>by
   cases e<;>first|exact h|(obtain ⟨D5,E8,H8,Sq,I4,v1',h1,h2⟩:=h;exact ⟨(D5,E8,H8,Sq,I4,v1'),h1,h2⟩)
theorem Fin.rJ {α0 α1 α2 α3:Type} {E1:α0→α1→α2→α3→Value→Value→Env} {I1:α0→α1→α2→α3→Value→Value→Ck} {C:α0→α1→α2→α3→Prop} (x0:α0) (x1:α1) (x2:α2) (x3:α3) (v0:Value) (v1:Value) (hC:C x0 x1 x2 x3) (hs:CU E (E1 x0 x1 x2 x3 v0 v1)) (hI:∀M w,I.h M w→(I1 x0 x1 x2 x3 v0 v1).h M w):
  Fin n E I (Exit.then (fun a w=>∃D5 E8 H8 Sq I4 v1',C D5 E8 H8 Sq∧St n (E1 D5 E8 H8 Sq I4 v1') (I1 D5 E8 H8 Sq I4 v1') a w) Q) .normal:=fun _ _ hst=>⟨x0,x1,x2,x3,v0,v1,hC,hst.sub hs hI⟩
end
structure DS where
 l:List Int
 at_:Nat
 h:at_≤l.length
 h2:l.length≤1000000000
def DS.val (s:DS) (n:Int):Int:=match s.l[s.at_]? with|some x=>x % n|none=>0
def DS.Cd (s:DS):DS:=if h:s.at_<s.l.length then ⟨s.l,s.at_+1,h,s.h2⟩ else s
theorem DS.C7 (s:DS) {n:Int} (hn:1≤n):0≤s.val n∧s.val n<n:=by
 unfold DS.val
 split
 · exact ⟨Int.emod_nonneg _ AA,Int.emod_lt_of_pos _ AA⟩
 · omega
theorem DS.rK {s:DS} (h:s.l.length≤s.at_) (n:Int):s.val n=0:=by
 unfold DS.val;rw [List.getElem?_eq_none h]
theorem DS.rL {s:DS} (h:s.l.length≤s.at_):s.Cd=s:=by
 unfold DS.Cd;rw [dif_neg AA]
theorem DS.wv {s:DS} {x:Int} (h:s.l[s.at_]? =some x) (n:Int):s.val n=x % n:=by
 unfold DS.val;rw [h]
theorem DS.wz {s:DS} (h:s.at_<s.l.length):s.Cd=⟨s.l,s.at_+1,h,s.h2⟩:=by
 unfold DS.Cd;rw [dif_pos h]
def Nq (s:DS):List Pr:=[slice 1 (s.l.map fun n=>[int n]),int ((s.at_:Nat):Int)]
def Wo (T:TypeId) (b:Nat) (s:DS):At:=AF true b T (Nq s)
def I5 (T:TypeId) (b:Nat):At:=Ml true b T (fun _:DS=>True) Nq
def DS.of (s:DS) (l:List Int):Int:=(l[(s.val l.length).toNat]?).getD 0
theorem DS.Q4 (s:DS) {l:List Int} (h:l≠[]):s.of l∈l:=by
 have h0:1≤(l.length:Int):=by
  have:=List.length_pos_iff.2 h
  omega
 have:=s.C7 h0
 unfold DS.of
 rw [List.getElem?_eq_getElem AA]
 exact List.getElem_mem _
section
variable {P:Program} {L:Lg P} {n:Fm} {fz:Nat} {E:Env} {M0:Av} {w0:World} {S:Nat→Prop} {rs:List At}
theorem Tr.TW {Q:Exit→Act→World→Prop} {c:Code} (i:Nat) {T:TypeId} {b:Nat} (hi:rs[i]? =some (I5 T b)) (k:∀s,Tr L n E (Hp M0 w0 S (rs.set i (Wo T b s))) c Q):Tr L n E (Hp M0 w0 S rs) c Q:=
 Tr.AAk i hi fun s _=>k s
theorem Fin.TW {Q:Exit→Act→World→Prop} {e:Exit} (i:Nat) {T:TypeId} {b:Nat} (hi:rs[i]? =some (I5 T b)) (k:∀s,Fin n E (Hp M0 w0 S (rs.set i (Wo T b s))) Q e):Fin n E (Hp M0 w0 S rs) Q e:=by
 rintro a w ⟨M,h1,h2,h3,h4⟩
 have h4:A9 M0 w0 S rs M w:=h4
 obtain ⟨x,hx,hh⟩:=(h4.hold _ (List.mem_of_getElem? hi)).1
 exact k x a w ⟨M,h1,h2,h3,h4.C4 hi rfl rfl hh⟩
theorem Fin.HF {Q:Exit→Act→World→Prop} {e:Exit} (i:Nat) {T:TypeId} {b:Nat} (s:DS) {ps:List Pr} (hi:rs[i]? =some (AF true b T ps)) (hp:ps=Nq s) (k:Fin n E (Hp M0 w0 S (rs.set i (I5 T b))) Q e):Fin n E (Hp M0 w0 S rs) Q e:=
 Fin.Np i (fun _=>True) Nq s trivial hi hp k
theorem Tr.HF {Q:Exit→Act→World→Prop} {c:Code} (i:Nat) {T:TypeId} {b:Nat} (s:DS) {ps:List Pr} (hi:rs[i]? =some (AF true b T ps)) (hp:ps=Nq s) (k:Tr L n E (Hp M0 w0 S (rs.set i (I5 T b))) c Q):Tr L n E (Hp M0 w0 S rs) c Q:=
 Tr.Np i (fun _=>True) Nq s trivial hi hp k
theorem TO.LX {ops:Array Oper} {l:List Oper} {Q:Exit→Act→World→Prop} (s j:Nat) {v:Value} {f:Value→At} (g:Nat→At) (hs:E.lookup s=some (Ad v (Cp.ex fun b=>ptr b 0))) (hi:rs[j]? =some (f v)) (hf:∀b,f (.pointer (some ⟨b,0,none⟩))=g b)
  (k:∀b,TO P n ops l ((s,ptr b 0)::E) (Hp M0 w0 S (rs.set j (g b))) Q):TO P n ops l E (Hp M0 w0 S rs) Q:=by
 intro k0 hl a w hst
 obtain ⟨M,h1,h2,he,h4⟩:=hst
 obtain ⟨h5,b,h6⟩:=he s _ hs
 have hv:v= .pointer (some ⟨b,0,none⟩):=by rw [←h5];exact h6
 have hj:rs.set j (g b)=rs:=by
  have hjl:j<rs.length:=by rcases Nat.lt_or_ge j rs.length with h|h;exact h;rw [List.getElem?_eq_none h] at hi;cases hi
  rw [←hf b,←hv]
  rw [List.getElem?_eq_getElem hjl] at hi
  simp at hi
  rw [←hi,List.set_getElem_self]
 refine k b k0 hl a w ⟨M,h1,h2,?_,by rw [hj];exact h4⟩
 intro t q hq
 simp only [List.lookup] at hq
 by_cases ht:t=s
 · exact Kj
 · exact Nf
def HG (r:ResultVar) (a:Act):Sem Value:=match r with| .tmp t=>pure (a.tmps.getD t undef)| .cell c t=>do loadVar t (←asAddr (a.tmps.getD c undef))
def AM (P:Program) (E:Env) (rs:List At) (r:ResultVar) (p:Pr):Prop:=∀(M:Av) (w:World) (a:Act),FY M w E a→(∀q∈rs,q.h M w)→∃v,(HG r a).run P w= .ok v w∧p.h M w v
theorem AM.tmp {t:Tmp} {q p:Pr} (h:E.lookup t=some q) (hl:Pr.le q p):AM P E rs (.tmp t) p:=fun _ _ _ he _=>⟨_,rfl,hl _ _ _ (he _ _ h)⟩
theorem AM.cell (i:Nat) {c:Tmp} {t T:TypeId} {b m:Nat} {new:Bool} {ps:List Pr} {p:Pr} (h:E.lookup c=some (ptr b 0)) (hi:rs[i]? =some (AF new b T ps)) (ht:Fa P t=true) (hz:BB P t=some m) (hm:ps.length=m) (hl:Pr.le (agg ps) p):AM P E rs (.cell c t) p:=by
 intro M w a he hr
 obtain ⟨v,h1,h2⟩:=kV ht hz hm (hr _ (List.mem_of_getElem? hi))
 refine ⟨v,?_,hl _ _ _ h2⟩
 have hc:a.tmps.getD c undef= .pointer (some ⟨b,0,none⟩):=he _ _ h
 unfold HG
 simp only [hc,asAddr]
 simpa [Sem.run_bind] using h1
theorem HH (g:Func) (a:Act):results g a.tmps=(do let vs ←g.results.mapM (fun r=>HG r a);pure (if h:vs.size=1 then vs[0] else .tuple vs)):=by
 have:(fun r:ResultVar=>HG r a)=(fun| .tmp t=>pure (a.tmps.getD t undef)| .cell c t=>do loadVar t (←asAddr (a.tmps.getD c undef))):=by
  funext r;cases r<;>rfl
 rw [this];rfl
theorem results1 {g:Func} {r:ResultVar} {a:Act} {w:World} {v:Value} (hr:g.results= #[r]) (h:(HG r a).run P w= .ok v w):(results g a.tmps).run P w= .ok v w:=by
 rw [HH,hr];simp [Sem.run_bind,h]
theorem results2 {g:Func} {r r':ResultVar} {a:Act} {w:World} {v v':Value} (hr:g.results= #[r,r']) (h:(HG r a).run P w= .ok v w) (h':(HG r' a).run P w= .ok v' w):(results g a.tmps).run P w= .ok (.tuple #[v,v']) w:=by
 rw [HH,hr];simp [Sem.run_bind,h,h']
theorem results3 {g:Func} {r r' r'':ResultVar} {a:Act} {w:World} {v v' v'':Value} (hr:g.results= #[r,r',r'']) (h:(HG r a).run P w= .ok v w) (h':(HG r' a).run P w= .ok v' w) (h'':(HG r'' a).run P w= .ok v'' w):(results g a.tmps).run P w= .ok (.tuple #[v,v',v'']) w:=by
 rw [HH,hr];simp [Sem.run_bind,h,h',h'']
theorem A9.Pm {M:Av} {w:World}:∀{pre:List At},A9 M0 w0 S (pre++rs) M w→A9 M0 w0 S rs M w
 |[],h=>h
 |_::_,h=>A9.Pm h.J3
variable {g:Func} {M1:Av} {w1:World}
theorem Fin.CY {r:ResultVar} {p q:Pr} (hr:g.results= #[r]) (h:AM P E rs r q) (hl:Pr.le q p):Fin ⟨fz,[]⟩ E (Hp M0 w0 FO rs) (bodyPost P g (U3 M0 w0 p)) .ret:=by
 rintro a w ⟨M,_,hd,he,hi⟩
 obtain ⟨v,hv,hp⟩:=h M w a he (fun q hq=>(hi.hold q hq).1)
 obtain ⟨h1,h2⟩:=Bg.Dc M0 w0 M w hi
 exact ⟨hd,v,results1 hr hv,_,rfl,p.st _ _ _ _ _ (Ext.less h1) (hl _ _ _ hp),h2⟩
theorem Fin.BT {r r':ResultVar} {p q q':Pr} (hr:g.results= #[r,r']) (h:AM P E rs r q) (h':AM P E rs r' q') (hl:Pr.le (Dz [q,q']) p):Fin ⟨fz,[]⟩ E (Hp M0 w0 FO rs) (bodyPost P g (U3 M0 w0 p)) .ret:=by
 rintro a w ⟨M,_,hd,he,hi⟩
 obtain ⟨v,hv,hp⟩:=h M w a he (fun q hq=>(hi.hold q hq).1)
 obtain ⟨v',k5,hp'⟩:=h' M w a he (fun q hq=>(hi.hold q hq).1)
 obtain ⟨h1,h2⟩:=Bg.Dc M0 w0 M w hi
 exact ⟨hd,_,results2 hr hv k5,_,rfl,p.st _ _ _ _ _ (Ext.less h1) (hl _ _ _ ⟨[_,_],rfl,hp,hp',trivial⟩),h2⟩
theorem Fin.FK {r r' r'':ResultVar} {p q q' kL:Pr} (hr:g.results= #[r,r',r'']) (h:AM P E rs r q) (h':AM P E rs r' q') (h'':AM P E rs r'' kL) (hl:Pr.le (Dz [q,q',kL]) p):Fin ⟨fz,[]⟩ E (Hp M0 w0 FO rs) (bodyPost P g (U3 M0 w0 p)) .ret:=by
 rintro a w ⟨M,_,hd,he,hi⟩
 obtain ⟨v,hv,hp⟩:=h M w a he (fun q hq=>(hi.hold q hq).1)
 obtain ⟨v',k5,hp'⟩:=h' M w a he (fun q hq=>(hi.hold q hq).1)
 obtain ⟨v'',k6,k7⟩:=h'' M w a he (fun q hq=>(hi.hold q hq).1)
 obtain ⟨h1,h2⟩:=Bg.Dc M0 w0 M w hi
 exact ⟨hd,_,results3 hr hv k5 k6,_,rfl,p.st _ _ _ _ _ (Ext.less h1) (hl _ _ _ ⟨[_,_,_],rfl,hp,hp',k7,trivial⟩),h2⟩
theorem Fin.Gb (pre:List At) {r:ResultVar} {R:At} {R':Value→At} {p q:Pr} (hr:g.results= #[r]) (h:AM P E (pre++R::Al M1 w1::rs) r q) (hl:Pr.le q p) (hR:∀M w v,q.h M w v→R' v=R):
  Fin ⟨fz,[]⟩ E (Hp M0 w0 S (pre++R::Al M1 w1::rs)) (bodyPost P g (OY M0 w0 S rs M1 w1 p R')) .ret:=by
 rintro a w ⟨M,_,hd,he,hi⟩
 obtain ⟨v,hv,hp⟩:=h M w a he (fun q hq=>(hi.hold q hq).1)
 obtain ⟨h1,h2⟩:=kU (A9.Pm hi)
 exact ⟨hd,v,results1 hr hv,_,M,rfl,hl _ _ _ hp,h1,by rw [hR _ _ _ hp];exact h2⟩
theorem Fin.TX (pre:List At) {r r':ResultVar} {R:At} {p q q':Pr} (hr:g.results= #[r,r']) (h:AM P E (pre++R::Al M1 w1::rs) r q) (h':AM P E (pre++R::Al M1 w1::rs) r' q') (hl:Pr.le (Dz [q,q']) p):
  Fin ⟨fz,[]⟩ E (Hp M0 w0 S (pre++R::Al M1 w1::rs)) (bodyPost P g (OY M0 w0 S rs M1 w1 p (fun _=>R))) .ret:=by
 rintro a w ⟨M,_,hd,he,hi⟩
 obtain ⟨v,hv,hp⟩:=h M w a he (fun q hq=>(hi.hold q hq).1)
 obtain ⟨v',k5,hp'⟩:=h' M w a he (fun q hq=>(hi.hold q hq).1)
 obtain ⟨h1,h2⟩:=kU (A9.Pm hi)
 exact ⟨hd,_,results2 hr hv k5,_,M,rfl,hl _ _ _ ⟨[_,_],rfl,hp,hp',trivial⟩,h1,h2⟩
theorem Fin.vP (pre:List At) {r r' r'':ResultVar} {R:At} {p q q' kL:Pr} (hr:g.results= #[r,r',r'']) (h:AM P E (pre++R::Al M1 w1::rs) r q) (h':AM P E (pre++R::Al M1 w1::rs) r' q') (h'':AM P E (pre++R::Al M1 w1::rs) r'' kL) (hl:Pr.le (Dz [q,q',kL]) p):
  Fin ⟨fz,[]⟩ E (Hp M0 w0 S (pre++R::Al M1 w1::rs)) (bodyPost P g (OY M0 w0 S rs M1 w1 p (fun _=>R))) .ret:=by
 rintro a w ⟨M,_,hd,he,hi⟩
 obtain ⟨v,hv,hp⟩:=h M w a he (fun q hq=>(hi.hold q hq).1)
 obtain ⟨v',k5,hp'⟩:=h' M w a he (fun q hq=>(hi.hold q hq).1)
 obtain ⟨v'',k6,k7⟩:=h'' M w a he (fun q hq=>(hi.hold q hq).1)
 obtain ⟨h1,h2⟩:=kU (A9.Pm hi)
 exact ⟨hd,_,results3 hr hv k5 k6,_,M,rfl,hl _ _ _ ⟨[_,_,_],rfl,hp,hp',k7,trivial⟩,h1,h2⟩
theorem Ax {α:Type} {p:α→Pr} {q:Pr} (x:α) (h:Pr.le q (p x)):Pr.le q (Cp.ex p):=fun M w v hv=>⟨x,h M w v hv⟩
theorem A_ {φ:Prop} {p q:Pr} (hφ:φ) (h:Pr.le q p):Pr.le q (fact φ p):=fun M w v hv=>⟨hφ,h M w v hv⟩
end
section
variable {P:Program} {L:Lg P} {n:Fm} {fz:Nat} {E:Env} {M0:Av} {w0:World} {S:Nat→Prop} {rs:List SR} {o:Oper}
theorem GD {t:TypeId} {x:Operand} {q:Tmp} {j:Nat} {new:Bool} {b off:Nat} {T:TypeId} {ps:List Pr} {p:Pr} [One p] (hg:o.guard=none) (hd:o.dst=none) (ho:o.op= .store t x (.tmp q)) (hx:VL E x (ptr b off)) (hy:E.lookup q=some p)
  (hz:BB P t=some 1) (hl:off+1≤ps.length):DI P M0 w0 S n j (SR.c (AF new b T ps)) ⟨q,fun v=>AF new b T (ps.take off++[Ad v p]++ps.drop (off+1))⟩ o E any:=by
 refine ⟨hg,fun M w a rs hsz he hI hj=> ?_⟩
 have h1:a.eval x= .pointer (some ⟨b,off,none⟩):=hx.ev he Au
 have hv:VL E (.tmp q) p:=⟨_,hy,Pr.le_refl _⟩
 have hp:=hv.ev he (show (Operand.tmp q)∈o.op.operands.toList by simp [ho,Op.operands])
 obtain ⟨h2,h3⟩:=(VL.le hv (AY p)).ev he (show (Operand.tmp q)∈o.op.operands.toList by simp [ho,Op.operands])
 obtain ⟨⟨_,cs,h4,h5,h6⟩,_⟩:=hI.hold _ (List.mem_of_getElem? hj)
 have h5l:=h5.length
 have h2l:=h2.length
 have hone:(a.eval (.tmp q)).cells= #[a.eval (.tmp q)]:=(One.one (p:=p) M w _ hp).1
 have h2':HL M w [Ad (a.eval (.tmp q)) p] (a.eval (.tmp q)).cells.toList:=by rw [hone];exact ⟨⟨rfl,hp⟩,trivial⟩
 have hcells:(a.eval (.tmp q)).cells.size=1:=by rw [hone];rfl
 have hrun:(storeCells ⟨b,off,none⟩ (a.eval (.tmp q)).cells.toList 0).run P w= .ok () (w.setRow b (cs.take off++(a.eval (.tmp q)).cells.toList++cs.drop (off+1)).toArray):=by
  have:=run_storeCells_at (P:=P) b off T (a.eval (.tmp q)).cells.toList 0 cs.toArray w h4 (by simp [hcells];omega) h3
  simpa [hcells] using this
 have E6:(execOp a.eval o).run P w= .ok .skip (w.setRow b (cs.take off++(a.eval (.tmp q)).cells.toList++cs.drop (off+1)).toArray):=by
  simp [execOp,ho,h1,Instr.storeAt,Instr.sureAddr,storeVar,C0 hz,hcells,hrun]
 rw [E6]
 obtain ⟨h7, h8⟩ := A9.write (qs := ps.take off ++ [Ad (a.eval (.tmp q)) p] ++ ps.drop (off + 1)) (cs := cs.take off ++ (a.eval (.tmp q)).cells.toList ++ cs.drop (off + 1)) hI hj ((((h5.take off).app h2')).app (h5.drop (off + 1)))
  (fun c hc=>by
   simp only [List.mem_append] at hc
   rcases hc with (hc|hc)|hc
   · exact PW
   · exact h3 c hc
   · exact h6 c (List.mem_of_mem_drop hc))
 refine ⟨M,trivial,h8,?_⟩
 have hput:SR.at_ (a.put o.dst undef) ⟨q,fun v=>AF new b T (ps.take off++[Ad v p]++ps.drop (off+1))⟩=AF new b T (ps.take off++[Ad (a.eval (.tmp q)) p]++ps.drop (off+1)):=by rw [hd];rfl
 rw [hput];exact h7
theorem k8 {j s:Nat} {f:Value→At} (hR:rs[j]? =some ⟨s,f⟩) (a:Act):(rs.set j (SR.c (f (a.tmps.getD s undef)))).map (·.at_ a)=rs.map (·.at_ a):=by
 rw [List.map_set]
 apply List.ext_getElem?
 intro i
 rw [List.getElem?_set]
 by_cases hij:j=i
 ·
  subst hij
  rw [if_pos rfl]
  split
  · rw [List.getElem?_map,hR];rfl
  ·
   rename_i hge
   rw [List.getElem?_eq_none AA]
 · rw [if_neg hij]
theorem BE.Q5 {Q:Exit→Act→World→Prop} (j i s:Nat) {f g:Value→At} {p:Pr} (hR:rs[j]? =some ⟨s,f⟩) (hR':rs[i]? =some ⟨s,g⟩) (hij:j≠i) (hs:E.lookup s=some p) (k:∀v,BE n M0 w0 S ((s,Ad v p)::E) ((rs.set j (SR.c (f v))).set i (SR.c (g v))) Q):BE n M0 w0 S E rs Q:=by
 rintro a w ⟨M,h1,h2,h3,h4⟩
 refine k (a.tmps.getD s undef) a w ⟨M,h1,h2,?_,?_⟩
 ·
  intro t q hq
  simp only [List.lookup] at hq
  by_cases ht:t=s
  · exact bO
  · rw [show (t==s)=false by simpa using ht] at hq;exact h3 t q hq
 · rw [k8 (rs:=rs.set j (SR.c (f (a.tmps.getD s undef)))) (j:=i) (s:=s) (f:=g) (by rw [List.getElem?_set,if_neg hij];exact hR') a,k8 hR a];exact h4
end
section
variable {P:Program} {L:Lg P} {n:Fm} {fz:Nat} {E:Env} {M0:Av} {w0:World} {S:Nat→Prop} {rs:List At}
theorem St.HY (j:Nat) {new:Bool} {b:Nat} {T:TypeId} {ps qs:List Pr} (hi:rs[j]? =some (AF new b T ps)) (h:Qz ps qs) {a:Act} {w:World} (hs:St n E (Hp M0 w0 S rs) a w):St n E (Hp M0 w0 S (rs.set j (AF new b T qs))) a w:=by
 obtain ⟨M,h1,h2,h3,h4⟩:=hs
 have h4:A9 M0 w0 S rs M w:=h4
 obtain ⟨h5,cs,h6,h7,h8⟩:=(h4.hold _ (List.mem_of_getElem? hi)).1
 exact ⟨M,h1,h2,h3,h4.C4 hi rfl rfl ⟨h5,cs,h6,h.hl h7,h8⟩⟩
theorem Tr.HY {Q:Exit→Act→World→Prop} {c:Code} (j:Nat) {new:Bool} {b:Nat} {T:TypeId} {ps:List Pr} (qs:List Pr) (hi:rs[j]? =some (AF new b T ps)) (h:Qz ps qs) (k:Tr L n E (Hp M0 w0 S (rs.set j (AF new b T qs))) c Q):Tr L n E (Hp M0 w0 S rs) c Q:=
 Tr.conv (fun _ _ hs=>hs.HY j hi h) k
theorem Fin.HY {Q:Exit→Act→World→Prop} {e:Exit} (j:Nat) {new:Bool} {b:Nat} {T:TypeId} {ps:List Pr} (qs:List Pr) (hi:rs[j]? =some (AF new b T ps)) (h:Qz ps qs) (k:Fin n E (Hp M0 w0 S (rs.set j (AF new b T qs))) Q e):Fin n E (Hp M0 w0 S rs) Q e:=
 Fin.conv (fun _ _ hs=>hs.HY j hi h) k
end
section
variable {P:Program} {L:Lg P} {n:Fm} {fz:Nat} {E:Env} {M0:Av} {w0:World} {S:Nat→Prop} {rs:List At}
abbrev Jl (m b:Nat):Value:= .slice (some ⟨b,0,none⟩) m m
theorem TO.VE {ops:Array Oper} {o:Oper} {r:List Oper} {Q:Exit→Act→World→Prop} {d m fy:Nat} {t e:TypeId} {x y:Operand} {z:Value} (hg:o.guard=none) (hd:o.dst=some d) (hn:d<n) (ho:o.op= .makeSlice t x y) (ht:P.underlying t=some (.slice e))
  (hs:BB P e=some 1) (hby:Bz P e=some fy) (hz:Ba P e=some [z]) (h1:z.oneCell'=true) (hx:VL E x (int ((m:Nat):Int))) (hy:VL E y (int ((m:Nat):Int))) (hm:m≤maxLen) (hb:fy*m≤281474976710656)
  (k:∀b,TO P n ops r ((d,is (Jl m b))::E) (Hp M0 w0 S (AF true b e ((List.replicate m z).map is)::rs)) Q):TO P n ops (o::r) E (Hp M0 w0 S rs) Q:=
 TO.ff hg fun K M w a hsz hdf he hI hK=>by
  have hx1:a.eval x= .int .i64 m:=hx.ev (o:=o) (CX he) Au
  have hy1:a.eval y= .int .i64 m:=hy.ev (o:=o) (CX he) Au
  have hi:∃i,P.info? e=some i∧i.size=1∧i.bytes=fy∧∃z',i.zero=some z'∧z'.cells= #[z]:=by
   unfold BB at hs;unfold Bz at hby;unfold Ba at hz
   cases hi:P.info? e with
   |none=>rw [hi] at hs;cases hs
   |some i=>
    rw [hi] at hs hby hz
    simp at hs hby hz
    obtain ⟨z',h2,h3⟩:=hz
    exact ⟨i,rfl,hs,hby,z',h2,by rw [←Array.toList_inj,h3]⟩
  obtain ⟨i,hi,hi1,hi2,z',Ef,Iv⟩:=hi
  have hmk:madeCells z'.cells m=(List.replicate m z).toArray:=by
   rw [Iv]
   apply Array.ext
   · simp [madeCells]
   ·
    intro j h1 h2
    simp [madeCells,Nat.mod_one]
  have hrun:=run_make (P:=P) w t e i z' ht hi Ef .i64 .i64 (m:Int) (m:Int) AA (Int.le_refl _) (by rw [hi2];have h0:((fy*m:Nat):Int)≤281474976710656:=Int.ofNat_le.2 hb;rw [←Int.natCast_mul];exact h0) Uw
  rw [hi1] at hrun
  simp only [Int.toNat_natCast,Nat.mul_one] at hrun
  rw [hmk] at hrun
  refine TO.val (v:=Jl m w.heap.size) (w':=w.alloc (.cells (List.replicate m z).toArray e)) ?_ ?_
  · simp [execOp,ho,hx1,hy1,hrun]
  ·
   obtain ⟨h2,h3⟩:=A9.add (T:=e) hI (J1 M w (List.replicate m z)) (fun c hc=>by rw [List.eq_of_mem_replicate hc];exact h1)
   refine hK _ _ _ _ (k w.heap.size) ⟨_,by rw [B9];exact hsz,by rw [put_defers];exact hdf,?_,h2⟩
   intro s p hp
   simp only [List.lookup] at hp
   by_cases hs:s=d
   · exact Qg
   ·
    rw [show (s==d)=false by simpa using hs] at hp
    rw [hd,BZ hs]
    exact p.st _ _ _ _ _ h3 (he s p hp)
theorem Be {I:Ck} {o:Oper} {t e:TypeId} {x y:Operand} {k:IntKind} {i:Int} {len cap sz b off:Nat} (ho:o.op= .indexAddr t x y) (ht:P.underlying t=some (.slice e)) (hz:BB P e=some sz) (hx:VL E x (is (.slice (some ⟨b,off,none⟩) len cap))) (hy:VL E y (is (.int k i)))
  (h0:0≤i) (hl:i<len):Ag P I o E (ptr b (off+i.toNat*sz)):=
 Ag.same fun M w a he _=>by
  have h1:a.eval x=_:=hx.ev he Au
  have h5:a.eval y= .int k i:=hy.ev he Au
  refine ⟨_,?_,rfl⟩
  simp [execOp,ho,h1,h5,Instr.indexAt,asIntOf,run_underlying ht,C0 hz,h0,hl,Ga]
def Dt (e:TypeId):List Nat→List (List Pr)→List At
 |b::bs,r::FP=>AF true b e r::Dt e bs FP
 |_,_=>[]
theorem TY {e:TypeId} {b:Nat} {r:List Pr}:∀{bs:List Nat} {FP:List (List Pr)},bs.length=FP.length→(Dt e (bs++[b]) (FP++[r])).Perm (AF true b e r::Dt e bs FP)
 |[],[],_=>List.Perm.refl _
 |c::bs,q::FP,h=>((TY D3).cons _).trans (List.Perm.swap _ _ _)
 |[],_::_,h=>by simp at h
 |_::_,[],h=>by simp at h
theorem VF {e:TypeId} {b:Nat} (r':List Pr):∀{i:Nat} {bs:List Nat} {FP:List (List Pr)},bs.length=FP.length→bs[i]? =some b→(Dt e bs (FP.set i r')).Perm (AF true b e r'::Dt e (bs.eraseIdx i) (FP.eraseIdx i))
 |0,c::bs,q::FP,_,hb=>by simp at hb;subst hb;exact List.Perm.refl _
 |i+1,c::bs,q::FP,h,hb=>((VF r' D3 FX).cons _).trans (List.Perm.swap _ _ _)
 |_,[],[],_,hb=>by simp at hb
 |_,[],_::_,h,_=>by simp at h
 |_,_::_,[],h,_=>by simp at h
theorem k9 {e:TypeId} {b i:Nat} {r:List Pr} {bs:List Nat} {FP:List (List Pr)} (h:bs.length=FP.length) (hb:bs[i]? =some b) (hr:FP[i]? =some r):(Dt e bs FP).Perm (AF true b e r::Dt e (bs.eraseIdx i) (FP.eraseIdx i)):=by
 have:=VF (e:=e) r h hb
 rwa [show FP.set i r=FP by
  have hl:i<FP.length:=by rcases Nat.lt_or_ge i FP.length with h|h;exact h;rw [List.getElem?_eq_none h] at hr;cases hr
  rw [List.getElem?_eq_getElem hl] at hr;simp at hr;rw [←hr,List.set_getElem_self]] at this
theorem Tr.perm {Q:Exit→Act→World→Prop} {c:Code} {rs':List At} (hp:rs.Perm rs') (k:Tr L n E (Hp M0 w0 S rs') c Q):Tr L n E (Hp M0 w0 S rs) c Q:=
 Tr.conv (fun _ _ ⟨M,h1,h2,h3,h4⟩=>⟨M,h1,h2,h3,A9.perm hp h4⟩) k
theorem Fin.perm {Q:Exit→Act→World→Prop} {ex:Exit} {rs':List At} (hp:rs.Perm rs') (k:Fin n E (Hp M0 w0 S rs') Q ex):Fin n E (Hp M0 w0 S rs) Q ex:=
 Fin.conv (fun _ _ ⟨M,h1,h2,h3,h4⟩=>⟨M,h1,h2,h3,A9.perm hp h4⟩) k
theorem A9.cR {b:Nat} {T:TypeId} {ps:List Pr} {M:Av} {w:World} (h4:A9 M0 w0 S (AF true b T ps::rs) M w):∃M',A9 M0 w0 S rs M' w∧Ext M w M' w∧Row M' w ⟨b,0,none⟩ 0 ps:=by
 obtain ⟨⟨hm,cs,hh,hc,hone⟩,hbb⟩:=h4.hold _ (List.mem_cons_self ..)
 obtain ⟨hlt,hnew⟩:=hbb b rfl
 have hnew:w0.heap.size≤b:=by simpa [AF] using hnew
 have he:Ext M w (fun b' o=>M b' o∧b'≠b) w:=Ext.less fun _ _ h=>h.1
 obtain ⟨AEs,AEt⟩:=List.pairwise_cons.1 h4.nd
 refine ⟨fun b' o=>M b' o∧b'≠b,⟨h4.m0,fun b' o' hm'=>⟨h4.m b' o' hm',fun e=> ?_⟩,h4.os,h4.tape,h4.output,h4.size,h4.block,fun b' o' hm'=>h4.bd b' o' hm'.1,fun r hr=> ?_,AEt⟩,he,fun j p hp=> ?_⟩
 ·
  subst e
  have:=h4.m0 _ _ hm'
  omega
 ·
  obtain ⟨h5,h6⟩:=h4.hold r (List.mem_cons_of_mem _ hr)
  exact ⟨r.st _ _ _ _ he (fun b' hb'=>⟨rfl,fun o' hmo=>⟨hmo,fun e=>AEs r hr b rfl (by rw [←e];exact hb')⟩⟩) h5,h6⟩
 ·
  obtain ⟨u,hu,hpu⟩:=hc.at_ j p hp
  refine ⟨u,?_,fun hx=>hx.2 rfl,hone u (List.mem_of_getElem? hu),p.st _ _ _ _ _ he hpu⟩
  rw [show Addr.add ⟨b,0,none⟩ (0+j)=⟨b,j,none⟩ by unfold Addr.add;split<;>simp_all]
  simp [World.cell?,hh,hu]
theorem A9.GF {e:TypeId} {w:World}:∀{bs:List Nat} {FP:List (List Pr)} {M:Av},bs.length=FP.length→A9 M0 w0 S (Dt e bs FP++rs) M w→∃M',A9 M0 w0 S rs M' w∧Ext M w M' w∧∀(i:Nat) b r,bs[i]? =some b→FP[i]? =some r→Row M' w ⟨b,0,none⟩ 0 r
 |[],[],M,_,h=>⟨M,h,Ext.refl _ _,fun i b r hb=>by simp at hb⟩
 |c::bs,q::FP,M,hl,h=>by
  obtain ⟨M1,h1,h2,h3⟩:=A9.cR (rs:=Dt e bs FP++rs) h
  obtain ⟨M2,h4,h5,h6⟩:=A9.GF (by simpa using hl) h1
  refine ⟨M2,h4,h2.trans h5,fun i b r hb hr=> ?_⟩
  cases i with
  |zero=>simp at hb hr;subst hb;subst hr;exact h3.st h5
  |succ i=>exact h6 i b r FX (by simpa using hr)
 |[],_::_,_,h,_=>by simp at h
 |_::_,[],_,h,_=>by simp at h
theorem St.GF {e:TypeId} {bs:List Nat} {FP:List (List Pr)} {m s:Nat} {q:Pr} (hl:bs.length=FP.length) (hm:m≤maxLen) (hr:∀r∈FP,r.length=m) (hs:E.lookup s=some q) (hq:Pr.le q (slice 1 (bs.map fun b=>[is (Jl m b)])))
  {a:Act} {w:World} (h:St n E (Hp M0 w0 S (Dt e bs FP++rs)) a w):St n ((s,slice 1 (FP.map fun r=>[slice 1 (r.map fun p=>[p])]))::E) (Hp M0 w0 S rs) a w:=by
 obtain ⟨M,h1,h2,h3,h4⟩:=h
 obtain ⟨M',h5,h6,h7⟩:=A9.GF hl h4
 refine ⟨M',h1,h2,?_,h5⟩
 intro t p hp
 simp only [List.lookup] at hp
 by_cases ht:t=s
 ·
  subst ht
  simp at hp
  subst hp
  obtain ⟨A,cap,h8,h9,h10,h11,h12⟩:=(slice 1 (bs.map fun b=>[is (Jl m b)])).st _ _ _ _ _ h6 (hq _ _ _ (h3 t _ hs))
  refine ⟨A,cap,by rw [h8];simp [hl],by simpa [hl] using h9,h10,h11,fun i row hrow=> ?_⟩
  rw [List.getElem?_map] at hrow
  cases htb:FP[i]? with
  |none=>rw [htb] at hrow;cases hrow
  |some r=>
   rw [htb] at hrow
   simp at hrow
   subst hrow
   have F8:i<bs.length:=by
    rcases Nat.lt_or_ge i FP.length with h|h
    · omega
    · rw [List.getElem?_eq_none h] at htb;cases htb
   obtain ⟨_,ad,NU,J5⟩:=h12 i [is (Jl m bs[i])] (by rw [List.getElem?_map,List.getElem?_eq_getElem F8];rfl)
   refine ⟨rfl,ad,NU,fun j p hp=> ?_⟩
   have hj:j=0:=by
    rcases Nat.eq_zero_or_pos j with h|h
    · exact h
    · exact PM
   subst hj
   simp at hp
   subst hp
   obtain ⟨u,Sh,h16,Nr,Si⟩:=J5 0 _ rfl
   refine ⟨u,Sh,h16,Nr,?_⟩
   have hu:u=Jl m bs[i]:=Si
   have hrl:=hr r (List.mem_of_getElem? htb)
   refine ⟨some ⟨bs[i],0,none⟩,m,by rw [hu];simp [hrl],by simp [hrl],hm,by simp,fun x row hx=> ?_⟩
   rw [List.getElem?_map] at hx
   cases hrx:r[x]? with
   |none=>rw [hrx] at hx;cases hx
   |some p=>
    rw [hrx] at hx
    simp at hx
    subst hx
    refine ⟨rfl,⟨bs[i],0,none⟩,rfl,fun y p' hy=> ?_⟩
    have hy0:y=0:=by
     rcases Nat.eq_zero_or_pos y with h|h
     · exact h
     · rw [List.getElem?_eq_none B8] at hy;cases hy
    subst hy0
    simp at hy
    subst hy
    have:=h7 i _ r (List.getElem?_eq_getElem F8) htb x p hrx
    simpa using this
 ·
  rw [show (t==s)=false by simpa using ht] at hp
  exact p.st _ _ _ _ _ h6 (h3 t p hp)
theorem Tr.GF {Q:Exit→Act→World→Prop} {c:Code} {e:TypeId} {bs:List Nat} {FP:List (List Pr)} {m:Nat} (s:Nat) {q:Pr} (hl:bs.length=FP.length) (hm:m≤maxLen) (hr:∀r∈FP,r.length=m) (hs:E.lookup s=some q) (hq:Pr.le q (slice 1 (bs.map fun b=>[is (Jl m b)])))
  (k:Tr L n ((s,slice 1 (FP.map fun r=>[slice 1 (r.map fun p=>[p])]))::E) (Hp M0 w0 S rs) c Q):Tr L n E (Hp M0 w0 S (Dt e bs FP++rs)) c Q:=
 Tr.conv (fun _ _ h=>h.GF hl hm hr hs hq) k
theorem Tr.Wp {Q:Exit→Act→World→Prop} {c:Code} {e:TypeId} {bs:List Nat} {FP:List (List Pr)} {m:Nat} (s:Nat) {q:Pr} (hl:bs.length=FP.length) (hm:m≤maxLen) (hr:∀r∈FP,r.length=m) (hs:E.lookup s=some q) (hq:Pr.le q (slice 1 (bs.map fun b=>[is (Jl m b)])))
  (k:Tr L n ((s,slice 1 (FP.map fun r=>[slice 1 (r.map fun p=>[p])]))::E) (Hp M0 w0 S []) c Q):Tr L n E (Hp M0 w0 S (Dt e bs FP)) c Q:=
 Tr.conv (fun _ _ h=>St.GF (e:=e) (rs:=[]) hl hm hr hs hq (by rw [List.append_nil];exact h)) k
end
end Cp
namespace Go.Proofs.YtmocaapoeefgkaaGreatDoor
open Go Cp
theorem mixed:Tryz.prog.follows .mixedOrders=true:=by kernel_rfl
theorem sz1:BB Tryz.prog 1=some 1:=by kernel_rfl
theorem z1:Ba Tryz.prog 1=some [.nilFunc]:=by kernel_rfl
theorem sz2:BB Tryz.prog 2=some 1:=by kernel_rfl
theorem z2:Ba Tryz.prog 2=some [.int .i64 0]:=by kernel_rfl
theorem Bt:BB Tryz.prog 3=some 1:=by kernel_rfl
theorem C8:EW Tryz.prog 3=true:=by kernel_rfl
theorem G2:Bz Tryz.prog 3=some 8:=by kernel_rfl
theorem zo3:([.int .i64 0]:List Value).all (·.oneCell')=true:=by kernel_rfl
theorem z3:Ba Tryz.prog 3=some [.int .i64 0]:=by kernel_rfl
theorem Ta:BB Tryz.prog 4=some 1:=by kernel_rfl
theorem ZA:EW Tryz.prog 4=true:=by kernel_rfl
theorem by4:Bz Tryz.prog 4=some 1:=by kernel_rfl
theorem zo4:([.bool false]:List Value).all (·.oneCell')=true:=by kernel_rfl
theorem z4:Ba Tryz.prog 4=some [.bool false]:=by kernel_rfl
theorem NV:BB Tryz.prog 5=some 1:=by kernel_rfl
theorem AAn:EW Tryz.prog 5=true:=by kernel_rfl
theorem cT:Bz Tryz.prog 5=some 1:=by kernel_rfl
theorem zo5:([.int .u8 0]:List Value).all (·.oneCell')=true:=by kernel_rfl
theorem z5:Ba Tryz.prog 5=some [.int .u8 0]:=by kernel_rfl
theorem z6:Ba Tryz.prog 6=some [.int .u8 0]:=by kernel_rfl
theorem Mq:BB Tryz.prog 9=some 1:=by kernel_rfl
theorem O4:EW Tryz.prog 9=true:=by kernel_rfl
theorem by9:Bz Tryz.prog 9=some 16:=by kernel_rfl
theorem zo9:([.string (ByteArray.mk #[])]:List Value).all (·.oneCell')=true:=by kernel_rfl
theorem z9:Ba Tryz.prog 9=some [.string (ByteArray.mk #[])]:=by kernel_rfl
theorem z12:Ba Tryz.prog 12=some [.int .u64 0]:=by kernel_rfl
theorem z13:Ba Tryz.prog 13=some [.string (ByteArray.mk #[]),.int .u64 0]:=by kernel_rfl
theorem z18:Ba Tryz.prog 18=some [.pointer none]:=by kernel_rfl
theorem z19:Ba Tryz.prog 19=some [.pointer none]:=by kernel_rfl
theorem z20:Ba Tryz.prog 20=some [.nilIface]:=by kernel_rfl
theorem Lw:BB Tryz.prog 22=some 1:=by kernel_rfl
theorem J6:EW Tryz.prog 22=true:=by kernel_rfl
theorem AEu:Bz Tryz.prog 22=some 24:=by kernel_rfl
theorem z22:Ba Tryz.prog 22=some [.slice none 0 0]:=by kernel_rfl
theorem z24:Ba Tryz.prog 24=some [.nilFunc]:=by kernel_rfl
theorem w4:BB Tryz.prog 27=some 1:=by kernel_rfl
theorem Oa:EW Tryz.prog 27=true:=by kernel_rfl
theorem AAo:BB Tryz.prog 28=some 1:=by kernel_rfl
theorem cU:EW Tryz.prog 28=true:=by kernel_rfl
theorem w5:BB Tryz.prog 29=some 1:=by kernel_rfl
theorem k_:EW Tryz.prog 29=true:=by kernel_rfl
theorem De:BB Tryz.prog 31=some 3:=by kernel_rfl
theorem Dg:Fa Tryz.prog 31=true:=by kernel_rfl
theorem AAp:∀ps,Tryz.prog.built 31 ps=Instr.fill (fun i=>(#[(0,1),(1,1),(2,1)]:Array (Nat×Nat))[i]?) ((List.replicate 3 (.slice none 0 0)):List Value).toArray ps:=by intro ps;kernel_rfl
theorem IW:((List.replicate 3 (.slice none 0 0)):List Value).all (·.oneCell')=true:=by kernel_rfl
theorem z31:Ba Tryz.prog 31=some (List.replicate 3 (.slice none 0 0)):=by kernel_rfl
theorem HI:Ab Tryz.prog 31 0=some 0:=by kernel_rfl
theorem Ns:Ab Tryz.prog 31 1=some 1:=by kernel_rfl
theorem Nt:Ab Tryz.prog 31 2=some 2:=by kernel_rfl
theorem AAq:BB Tryz.prog 32=some 1:=by kernel_rfl
theorem Wq:EW Tryz.prog 32=true:=by kernel_rfl
theorem vQ:EW Tryz.prog 33=true:=by kernel_rfl
theorem CG:BB Tryz.prog 35=some 3:=by kernel_rfl
theorem Cn:Fa Tryz.prog 35=true:=by kernel_rfl
theorem Lx:∀ps,Tryz.prog.built 35 ps=Instr.fill (fun i=>(#[(0,1),(1,1),(2,1)]:Array (Nat×Nat))[i]?) ((List.replicate 3 (.slice none 0 0)):List Value).toArray ps:=by intro ps;kernel_rfl
theorem E9:((List.replicate 3 (.slice none 0 0)):List Value).all (·.oneCell')=true:=by kernel_rfl
theorem z35:Ba Tryz.prog 35=some (List.replicate 3 (.slice none 0 0)):=by kernel_rfl
theorem Ly:Ab Tryz.prog 35 0=some 0:=by kernel_rfl
theorem lA:Ab Tryz.prog 35 1=some 1:=by kernel_rfl
theorem ZB:Ab Tryz.prog 35 2=some 2:=by kernel_rfl
theorem z37:Ba Tryz.prog 37=some [.nilFunc]:=by kernel_rfl
theorem lB:BB Tryz.prog 38=some 1:=by kernel_rfl
theorem vR:EW Tryz.prog 38=true:=by kernel_rfl
theorem CE:BB Tryz.prog 40=some 9:=by kernel_rfl
theorem Ci:Fa Tryz.prog 40=true:=by kernel_rfl
theorem w7:Bz Tryz.prog 40=some 144:=by kernel_rfl
theorem rM:∀ps,Tryz.prog.built 40 ps=Instr.fill (fun i=>(#[(0,1),(1,1),(2,1),(3,1),(4,1),(5,1),(6,1),(7,1),(8,1)]:Array (Nat×Nat))[i]?) ([.string (ByteArray.mk #[]),.int .i64 0,.int .i64 0,.slice none 0 0,.bool false,.slice none 0 0,.slice none 0 0,.slice none 0 0,.bool false]:List Value).toArray ps:=by intro ps;kernel_rfl
theorem H9:([.string (ByteArray.mk #[]),.int .i64 0,.int .i64 0,.slice none 0 0,.bool false,.slice none 0 0,.slice none 0 0,.slice none 0 0,.bool false]:List Value).all (·.oneCell')=true:=by kernel_rfl
theorem z40:Ba Tryz.prog 40=some [.string (ByteArray.mk #[]),.int .i64 0,.int .i64 0,.slice none 0 0,.bool false,.slice none 0 0,.slice none 0 0,.slice none 0 0,.bool false]:=by kernel_rfl
theorem lC:Ab Tryz.prog 40 0=some 0:=by kernel_rfl
theorem w8:Ab Tryz.prog 40 1=some 1:=by kernel_rfl
theorem ZC:Ab Tryz.prog 40 2=some 2:=by kernel_rfl
theorem Nu:Ab Tryz.prog 40 3=some 3:=by kernel_rfl
theorem w9:Ab Tryz.prog 40 4=some 4:=by kernel_rfl
theorem Q6:Ab Tryz.prog 40 5=some 5:=by kernel_rfl
theorem lD:Ab Tryz.prog 40 6=some 6:=by kernel_rfl
theorem lE:Ab Tryz.prog 40 7=some 7:=by kernel_rfl
theorem ZD:Ab Tryz.prog 40 8=some 8:=by kernel_rfl
theorem DV:BB Tryz.prog 42=some 7:=by kernel_rfl
theorem EC:Fa Tryz.prog 42=true:=by kernel_rfl
theorem ZE:∀ps,Tryz.prog.built 42 ps=Instr.fill (fun i=>(#[(0,3),(3,1),(4,1),(5,1),(6,1)]:Array (Nat×Nat))[i]?) ([.slice none 0 0,.slice none 0 0,.slice none 0 0,.int .i64 0,.slice none 0 0,.slice none 0 0,.bool false]:List Value).toArray ps:=by intro ps;kernel_rfl
theorem HJ:([.slice none 0 0,.slice none 0 0,.slice none 0 0,.int .i64 0,.slice none 0 0,.slice none 0 0,.bool false]:List Value).all (·.oneCell')=true:=by kernel_rfl
theorem z42:Ba Tryz.prog 42=some [.slice none 0 0,.slice none 0 0,.slice none 0 0,.int .i64 0,.slice none 0 0,.slice none 0 0,.bool false]:=by kernel_rfl
theorem ZF:Ab Tryz.prog 42 0=some 0:=by kernel_rfl
theorem ZG:Ab Tryz.prog 42 1=some 3:=by kernel_rfl
theorem Q7:Ab Tryz.prog 42 2=some 4:=by kernel_rfl
theorem VG:Ab Tryz.prog 42 3=some 5:=by kernel_rfl
theorem w_:Ab Tryz.prog 42 4=some 6:=by kernel_rfl
theorem xA:BB Tryz.prog 43=some 1:=by kernel_rfl
theorem AAr:EW Tryz.prog 43=true:=by kernel_rfl
theorem z43:Ba Tryz.prog 43=some [.int .i64 0]:=by kernel_rfl
theorem Gw:BB Tryz.prog 51=some 1:=by kernel_rfl
theorem cV:EW Tryz.prog 51=true:=by kernel_rfl
theorem Wr:Bz Tryz.prog 51=some 24:=by kernel_rfl
theorem AAs:([.slice none 0 0]:List Value).all (·.oneCell')=true:=by kernel_rfl
theorem z51:Ba Tryz.prog 51=some [.slice none 0 0]:=by kernel_rfl
theorem jW:Ba Tryz.prog 54=some [.nilFunc]:=by kernel_rfl
theorem Cw:BB Tryz.prog 61=some 2:=by kernel_rfl
theorem Fe:Fa Tryz.prog 61=true:=by kernel_rfl
theorem Sr:Bz Tryz.prog 61=some 16:=by kernel_rfl
theorem AAt:∀ps,Tryz.prog.built 61 ps=Instr.fill (fun i=>(#[(0,1),(1,1)]:Array (Nat×Nat))[i]?) ((List.replicate 2 (.int .i64 0)):List Value).toArray ps:=by intro ps;kernel_rfl
theorem Q8:((List.replicate 2 (.int .i64 0)):List Value).all (·.oneCell')=true:=by kernel_rfl
theorem Sj:Ba Tryz.prog 61=some (List.replicate 2 (.int .i64 0)):=by kernel_rfl
theorem ZH:Ab Tryz.prog 61 0=some 0:=by kernel_rfl
theorem ZI:Ab Tryz.prog 61 1=some 1:=by kernel_rfl
theorem AAu:EW Tryz.prog 75=true:=by kernel_rfl
theorem Ws:BB Tryz.prog 77=some 3:=by kernel_rfl
theorem Ob:Fa Tryz.prog 77=true:=by kernel_rfl
theorem AEv:∀ps,Tryz.prog.built 77 ps=Instr.fill (fun i=>(#[(0,1),(1,1),(2,1)]:Array (Nat×Nat))[i]?) ((List.replicate 3 (.slice none 0 0)):List Value).toArray ps:=by intro ps;kernel_rfl
theorem AAv:((List.replicate 3 (.slice none 0 0)):List Value).all (·.oneCell')=true:=by kernel_rfl
theorem z77:Ba Tryz.prog 77=some (List.replicate 3 (.slice none 0 0)):=by kernel_rfl
theorem xB:Ab Tryz.prog 77 0=some 0:=by kernel_rfl
theorem xC:Ab Tryz.prog 77 1=some 1:=by kernel_rfl
theorem xD:Ab Tryz.prog 77 2=some 2:=by kernel_rfl
theorem LC:BB Tryz.prog 81=some 2:=by kernel_rfl
theorem JX:Fa Tryz.prog 81=true:=by kernel_rfl
theorem xE:∀ps,Tryz.prog.built 81 ps=Instr.fill (fun i=>(#[(0,1),(1,1)]:Array (Nat×Nat))[i]?) ((List.replicate 2 (.int .i64 0)):List Value).toArray ps:=by intro ps;kernel_rfl
theorem EX:((List.replicate 2 (.int .i64 0)):List Value).all (·.oneCell')=true:=by kernel_rfl
theorem Ks:Ba Tryz.prog 81=some (List.replicate 2 (.int .i64 0)):=by kernel_rfl
theorem xF:Ab Tryz.prog 81 0=some 0:=by kernel_rfl
theorem xH:Ab Tryz.prog 81 1=some 1:=by kernel_rfl
theorem AAw:BB Tryz.prog 82=some 1:=by kernel_rfl
theorem AAx:EW Tryz.prog 82=true:=by kernel_rfl
theorem Ey:BB Tryz.prog 84=some 4:=by kernel_rfl
theorem Tc:Fa Tryz.prog 84=true:=by kernel_rfl
theorem f_:Bz Tryz.prog 84=some 48:=by kernel_rfl
theorem AAy:∀ps,Tryz.prog.built 84 ps=Instr.fill (fun i=>(#[(0,2),(2,1),(3,1)]:Array (Nat×Nat))[i]?) ([.int .i64 0,.int .i64 0,.int .i64 0,.slice none 0 0]:List Value).toArray ps:=by intro ps;kernel_rfl
theorem Wt:([.int .i64 0,.int .i64 0,.int .i64 0,.slice none 0 0]:List Value).all (·.oneCell')=true:=by kernel_rfl
theorem YU:Ba Tryz.prog 84=some [.int .i64 0,.int .i64 0,.int .i64 0,.slice none 0 0]:=by kernel_rfl
theorem xI:Ab Tryz.prog 84 0=some 0:=by kernel_rfl
theorem xJ:Ab Tryz.prog 84 1=some 2:=by kernel_rfl
theorem lF:Ab Tryz.prog 84 2=some 3:=by kernel_rfl
theorem Du:BB Tryz.prog 86=some 8:=by kernel_rfl
theorem Hr:Fa Tryz.prog 86=true:=by kernel_rfl
theorem ZJ:Bz Tryz.prog 86=some 80:=by kernel_rfl
theorem gA:∀ps,Tryz.prog.built 86 ps=Instr.fill (fun i=>(#[(0,1),(1,1),(2,1),(3,1),(4,4)]:Array (Nat×Nat))[i]?) ([.int .i64 0,.int .i64 0,.int .i64 0,.int .i64 0,.int .i64 0,.int .i64 0,.int .i64 0,.slice none 0 0]:List Value).toArray ps:=by intro ps;kernel_rfl
theorem LD:([.int .i64 0,.int .i64 0,.int .i64 0,.int .i64 0,.int .i64 0,.int .i64 0,.int .i64 0,.slice none 0 0]:List Value).all (·.oneCell')=true:=by kernel_rfl
theorem Pn:Ba Tryz.prog 86=some [.int .i64 0,.int .i64 0,.int .i64 0,.int .i64 0,.int .i64 0,.int .i64 0,.int .i64 0,.slice none 0 0]:=by kernel_rfl
theorem xL:Ab Tryz.prog 86 0=some 0:=by kernel_rfl
theorem xM:Ab Tryz.prog 86 1=some 1:=by kernel_rfl
theorem xN:Ab Tryz.prog 86 2=some 2:=by kernel_rfl
theorem xO:Ab Tryz.prog 86 3=some 3:=by kernel_rfl
theorem xP:Ab Tryz.prog 86 4=some 4:=by kernel_rfl
theorem rN:BB Tryz.prog 99=some 1:=by kernel_rfl
theorem AAz:EW Tryz.prog 99=true:=by kernel_rfl
theorem AEw:Bz Tryz.prog 99=some 24:=by kernel_rfl
theorem AEx:([.slice none 0 0]:List Value).all (·.oneCell')=true:=by kernel_rfl
theorem z99:Ba Tryz.prog 99=some [.slice none 0 0]:=by kernel_rfl
theorem AA0:∀ps,Tryz.prog.built 104 ps=Instr.fill (fun i=>(#[(0,1),(1,1)]:Array (Nat×Nat))[i]?) ([.slice none 0 0,.int .i64 0]:List Value).toArray ps:=by intro ps;kernel_rfl
theorem AA1:([.slice none 0 0,.int .i64 0]:List Value).all (·.oneCell')=true:=by kernel_rfl
theorem rO:Ab Tryz.prog 104 0=some 0:=by kernel_rfl
theorem rP:Ab Tryz.prog 104 1=some 1:=by kernel_rfl
theorem AA2:BB Tryz.prog 105=some 1:=by kernel_rfl
theorem xQ:EW Tryz.prog 105=true:=by kernel_rfl
theorem Bo:BB Tryz.prog 107=some 1:=by kernel_rfl
theorem CS:Fa Tryz.prog 107=true:=by kernel_rfl
theorem JY:∀ps,Tryz.prog.built 107 ps=Instr.fill (fun i=>(#[(0,1)]:Array (Nat×Nat))[i]?) ([.slice none 0 0]:List Value).toArray ps:=by intro ps;kernel_rfl
theorem Ed:([.slice none 0 0]:List Value).all (·.oneCell')=true:=by kernel_rfl
theorem z107:Ba Tryz.prog 107=some [.slice none 0 0]:=by kernel_rfl
theorem cW:Ab Tryz.prog 107 0=some 0:=by kernel_rfl
theorem ZK:EW Tryz.prog 111=true:=by kernel_rfl
theorem lG:EW Tryz.prog 112=true:=by kernel_rfl
theorem Td:BB Tryz.prog 114=some 2:=by kernel_rfl
theorem Nv:Fa Tryz.prog 114=true:=by kernel_rfl
theorem AA3:∀ps,Tryz.prog.built 114 ps=Instr.fill (fun i=>(#[(0,1),(1,1)]:Array (Nat×Nat))[i]?) ((List.replicate 2 (.slice none 0 0)):List Value).toArray ps:=by intro ps;kernel_rfl
theorem AA4:((List.replicate 2 (.slice none 0 0)):List Value).all (·.oneCell')=true:=by kernel_rfl
theorem VH:Ab Tryz.prog 114 0=some 0:=by kernel_rfl
theorem cX:Ab Tryz.prog 114 1=some 1:=by kernel_rfl
theorem Wu:BB Tryz.prog 116=some 2:=by kernel_rfl
theorem Q9:Fa Tryz.prog 116=true:=by kernel_rfl
theorem AA5:∀ps,Tryz.prog.built 116 ps=Instr.fill (fun i=>(#[(0,1),(1,1)]:Array (Nat×Nat))[i]?) ([.slice none 0 0,.int .i64 0]:List Value).toArray ps:=by intro ps;kernel_rfl
theorem AA6:([.slice none 0 0,.int .i64 0]:List Value).all (·.oneCell')=true:=by kernel_rfl
theorem vS:BB Tryz.prog 127=some 1:=by kernel_rfl
theorem xR:EW Tryz.prog 127=true:=by kernel_rfl
theorem Ew:BB Tryz.prog 132=some 2:=by kernel_rfl
theorem Q_:Fa Tryz.prog 132=true:=by kernel_rfl
theorem vT:Bz Tryz.prog 132=some 16:=by kernel_rfl
theorem vU:∀ps,Tryz.prog.built 132 ps=Instr.fill (fun i=>(#[(0,1),(1,1)]:Array (Nat×Nat))[i]?) ((List.replicate 2 (.int .i64 0)):List Value).toArray ps:=by intro ps;kernel_rfl
theorem Wv:((List.replicate 2 (.int .i64 0)):List Value).all (·.oneCell')=true:=by kernel_rfl
theorem ZL:Ba Tryz.prog 132=some (List.replicate 2 (.int .i64 0)):=by kernel_rfl
theorem rQ:Ab Tryz.prog 132 0=some 0:=by kernel_rfl
theorem rR:Ab Tryz.prog 132 1=some 1:=by kernel_rfl
theorem vV:BB Tryz.prog 133=some 1:=by kernel_rfl
theorem xS:EW Tryz.prog 133=true:=by kernel_rfl
theorem Hs:BB Tryz.prog 135=some 5:=by kernel_rfl
theorem VI:Fa Tryz.prog 135=true:=by kernel_rfl
theorem lH:Bz Tryz.prog 135=some 64:=by kernel_rfl
theorem AA7:∀ps,Tryz.prog.built 135 ps=Instr.fill (fun i=>(#[(0,1),(1,1),(2,1),(3,1),(4,1)]:Array (Nat×Nat))[i]?) ([.string (ByteArray.mk #[]),.int .i64 0,.int .i64 0,.slice none 0 0,.int .i64 0]:List Value).toArray ps:=by intro ps;kernel_rfl
theorem Ww:([.string (ByteArray.mk #[]),.int .i64 0,.int .i64 0,.slice none 0 0,.int .i64 0]:List Value).all (·.oneCell')=true:=by kernel_rfl
theorem VJ:Ba Tryz.prog 135=some [.string (ByteArray.mk #[]),.int .i64 0,.int .i64 0,.slice none 0 0,.int .i64 0]:=by kernel_rfl
theorem rS:Ab Tryz.prog 135 0=some 0:=by kernel_rfl
theorem rT:Ab Tryz.prog 135 1=some 1:=by kernel_rfl
theorem rU:Ab Tryz.prog 135 2=some 2:=by kernel_rfl
theorem VK:Ab Tryz.prog 135 3=some 3:=by kernel_rfl
theorem rV:Ab Tryz.prog 135 4=some 4:=by kernel_rfl
theorem AA8:∀ps,Tryz.prog.built 139 ps=Instr.fill (fun i=>(#[(0,1),(1,1)]:Array (Nat×Nat))[i]?) ((List.replicate 2 (.int .i64 0)):List Value).toArray ps:=by intro ps;kernel_rfl
theorem AA9:((List.replicate 2 (.int .i64 0)):List Value).all (·.oneCell')=true:=by kernel_rfl
theorem rW:Ab Tryz.prog 139 0=some 0:=by kernel_rfl
theorem rX:Ab Tryz.prog 139 1=some 1:=by kernel_rfl
theorem IX:BB Tryz.prog 141=some 3:=by kernel_rfl
theorem RA:Fa Tryz.prog 141=true:=by kernel_rfl
theorem AA_:∀ps,Tryz.prog.built 141 ps=Instr.fill (fun i=>(#[(0,2),(2,1)]:Array (Nat×Nat))[i]?) ([.int .i64 0,.int .i64 0,.slice none 0 0]:List Value).toArray ps:=by intro ps;kernel_rfl
theorem RB:([.int .i64 0,.int .i64 0,.slice none 0 0]:List Value).all (·.oneCell')=true:=by kernel_rfl
theorem z141:Ba Tryz.prog 141=some [.int .i64 0,.int .i64 0,.slice none 0 0]:=by kernel_rfl
theorem rY:Ab Tryz.prog 141 0=some 0:=by kernel_rfl
theorem rZ:Ab Tryz.prog 141 1=some 2:=by kernel_rfl
theorem Oc:BB Tryz.prog 160=some 1:=by kernel_rfl
theorem xT:EW Tryz.prog 160=true:=by kernel_rfl
theorem ABA:Bz Tryz.prog 160=some 24:=by kernel_rfl
theorem z160:Ba Tryz.prog 160=some [.slice none 0 0]:=by kernel_rfl
theorem ABB:BB Tryz.prog 176=some 1:=by kernel_rfl
theorem I6:EW Tryz.prog 176=true:=by kernel_rfl
theorem ABC:([.pointer none]:List Value).all (·.oneCell')=true:=by kernel_rfl
theorem AEy:Ba Tryz.prog 176=some [.pointer none]:=by kernel_rfl
theorem Ff:BB Tryz.prog 181=some 1:=by kernel_rfl
theorem EY:EW Tryz.prog 181=true:=by kernel_rfl
theorem vW:Bz Tryz.prog 181=some 4:=by kernel_rfl
theorem ABD:([.int .u32 0]:List Value).all (·.oneCell')=true:=by kernel_rfl
theorem xU:Ba Tryz.prog 181=some [.int .u32 0]:=by kernel_rfl
theorem lI:BB Tryz.prog 187=some 2:=by kernel_rfl
theorem xV:Fa Tryz.prog 187=true:=by kernel_rfl
theorem vX:∀ps,Tryz.prog.built 187 ps=Instr.fill (fun i=>(#[(0,1),(1,1)]:Array (Nat×Nat))[i]?) ((List.replicate 2 (.int .i64 0)):List Value).toArray ps:=by intro ps;kernel_rfl
theorem vY:((List.replicate 2 (.int .i64 0)):List Value).all (·.oneCell')=true:=by kernel_rfl
theorem rj:Ab Tryz.prog 187 0=some 0:=by kernel_rfl
theorem ru:Ab Tryz.prog 187 1=some 1:=by kernel_rfl
theorem DN:BB Tryz.prog 189=some 15:=by kernel_rfl
theorem Gk:Fa Tryz.prog 189=true:=by kernel_rfl
theorem vZ:Bz Tryz.prog 189=some 152:=by kernel_rfl
theorem ABE:∀ps,Tryz.prog.built 189 ps=Instr.fill (fun i=>(#[(0,1),(1,1),(2,1),(3,2),(5,1),(6,2),(8,1),(9,1),(10,1),(11,1),(12,1),(13,2)]:Array (Nat×Nat))[i]?) ([.int .i64 0,.string (ByteArray.mk #[]),.string (ByteArray.mk #[]),.int .i64 0,.int .i64 0,.int .i64 0,.int .i64 0,.int .i64 0,.int .i64 0,.int .i64 0,.bool false,.int .i64 0,.slice none 0 0,.int .i64 0,.int .i64 0]:List Value).toArray ps:=by intro ps;kernel_rfl
theorem Od:([.int .i64 0,.string (ByteArray.mk #[]),.string (ByteArray.mk #[]),.int .i64 0,.int .i64 0,.int .i64 0,.int .i64 0,.int .i64 0,.int .i64 0,.int .i64 0,.bool false,.int .i64 0,.slice none 0 0,.int .i64 0,.int .i64 0]:List Value).all (·.oneCell')=true:=by kernel_rfl
theorem VM:Ba Tryz.prog 189=some [.int .i64 0,.string (ByteArray.mk #[]),.string (ByteArray.mk #[]),.int .i64 0,.int .i64 0,.int .i64 0,.int .i64 0,.int .i64 0,.int .i64 0,.int .i64 0,.bool false,.int .i64 0,.slice none 0 0,.int .i64 0,.int .i64 0]:=by kernel_rfl
theorem ry:Ab Tryz.prog 189 0=some 0:=by kernel_rfl
theorem rz:Ab Tryz.prog 189 1=some 1:=by kernel_rfl
theorem r6:Ab Tryz.prog 189 2=some 2:=by kernel_rfl
theorem r7:Ab Tryz.prog 189 3=some 3:=by kernel_rfl
theorem r8:Ab Tryz.prog 189 4=some 5:=by kernel_rfl
theorem r9:Ab Tryz.prog 189 5=some 6:=by kernel_rfl
theorem r_:Ab Tryz.prog 189 6=some 8:=by kernel_rfl
theorem sA:Ab Tryz.prog 189 7=some 9:=by kernel_rfl
theorem sB:Ab Tryz.prog 189 8=some 10:=by kernel_rfl
theorem sC:Ab Tryz.prog 189 9=some 11:=by kernel_rfl
theorem Wx:Ab Tryz.prog 189 10=some 12:=by kernel_rfl
theorem RC:Ab Tryz.prog 189 11=some 13:=by kernel_rfl
theorem J7:BB Tryz.prog 198=some 3:=by kernel_rfl
theorem vc:Bz Tryz.prog 198=some 24:=by kernel_rfl
theorem ABF:∀ps,Tryz.prog.built 198 ps=Instr.fill (fun i=>(#[(0,2),(2,1)]:Array (Nat×Nat))[i]?) ((List.replicate 3 (.int .i64 0)):List Value).toArray ps:=by intro ps;kernel_rfl
theorem ve:((List.replicate 3 (.int .i64 0)):List Value).all (·.oneCell')=true:=by kernel_rfl
theorem z198:Ba Tryz.prog 198=some (List.replicate 3 (.int .i64 0)):=by kernel_rfl
theorem sD:Ab Tryz.prog 198 0=some 0:=by kernel_rfl
theorem sE:Ab Tryz.prog 198 1=some 2:=by kernel_rfl
theorem I7:EW Tryz.prog 232=true:=by kernel_rfl
theorem ABG:∀ps,Tryz.prog.built 234 ps=Instr.fill (fun i=>(#[(0,1),(1,1),(2,1)]:Array (Nat×Nat))[i]?) ([.int .i64 0,.slice none 0 0,.slice none 0 0]:List Value).toArray ps:=by intro ps;kernel_rfl
theorem ABH:([.int .i64 0,.slice none 0 0,.slice none 0 0]:List Value).all (·.oneCell')=true:=by kernel_rfl
theorem sF:Ab Tryz.prog 234 0=some 0:=by kernel_rfl
theorem I8:Ab Tryz.prog 234 1=some 1:=by kernel_rfl
theorem cY:Ab Tryz.prog 234 2=some 2:=by kernel_rfl
theorem ABI:BB Tryz.prog 241=some 1:=by kernel_rfl
theorem lJ:EW Tryz.prog 241=true:=by kernel_rfl
theorem F2:BB Tryz.prog 247=some 12:=by kernel_rfl
theorem I9:Fa Tryz.prog 247=true:=by kernel_rfl
theorem Wy:∀ps,Tryz.prog.built 247 ps=Instr.fill (fun i=>(#[(0,1),(1,1),(2,2),(4,2),(6,2),(8,2),(10,1),(11,1)]:Array (Nat×Nat))[i]?) ([.int .i64 0,.string (ByteArray.mk #[]),.int .i64 0,.int .i64 0,.int .i64 0,.int .i64 0,.int .i64 0,.int .i64 0,.int .i64 0,.int .i64 0,.int .i64 0,.int .i64 0]:List Value).toArray ps:=by intro ps;kernel_rfl
theorem IY:([.int .i64 0,.string (ByteArray.mk #[]),.int .i64 0,.int .i64 0,.int .i64 0,.int .i64 0,.int .i64 0,.int .i64 0,.int .i64 0,.int .i64 0,.int .i64 0,.int .i64 0]:List Value).all (·.oneCell')=true:=by kernel_rfl
theorem Ss:Ba Tryz.prog 247=some [.int .i64 0,.string (ByteArray.mk #[]),.int .i64 0,.int .i64 0,.int .i64 0,.int .i64 0,.int .i64 0,.int .i64 0,.int .i64 0,.int .i64 0,.int .i64 0,.int .i64 0]:=by kernel_rfl
theorem sG:Ab Tryz.prog 247 2=some 2:=by kernel_rfl
theorem sH:Ab Tryz.prog 247 3=some 4:=by kernel_rfl
theorem sI:Ab Tryz.prog 247 4=some 6:=by kernel_rfl
theorem sJ:Ab Tryz.prog 247 5=some 8:=by kernel_rfl
theorem sK:Ab Tryz.prog 247 6=some 10:=by kernel_rfl
theorem sL:Ab Tryz.prog 247 7=some 11:=by kernel_rfl
theorem CI:BB Tryz.prog 268=some 2:=by kernel_rfl
theorem C2:Fa Tryz.prog 268=true:=by kernel_rfl
theorem cZ:Bz Tryz.prog 268=some 16:=by kernel_rfl
theorem Te:∀ps,Tryz.prog.built 268 ps=Instr.fill (fun i=>(#[(0,1),(1,1)]:Array (Nat×Nat))[i]?) ((List.replicate 2 (.int .i64 0)):List Value).toArray ps:=by intro ps;kernel_rfl
theorem Fg:((List.replicate 2 (.int .i64 0)):List Value).all (·.oneCell')=true:=by kernel_rfl
theorem Jm:Ba Tryz.prog 268=some (List.replicate 2 (.int .i64 0)):=by kernel_rfl
theorem sM:Ab Tryz.prog 268 1=some 1:=by kernel_rfl
theorem F3:BB Tryz.prog 270=some 4:=by kernel_rfl
theorem J8:Fa Tryz.prog 270=true:=by kernel_rfl
theorem ABJ:Bz Tryz.prog 270=some 48:=by kernel_rfl
theorem cj:∀ps,Tryz.prog.built 270 ps=Instr.fill (fun i=>(#[(0,1),(1,1),(2,2)]:Array (Nat×Nat))[i]?) ([.int .i64 0,.slice none 0 0,.int .i64 0,.int .i64 0]:List Value).toArray ps:=by intro ps;kernel_rfl
theorem RD:([.int .i64 0,.slice none 0 0,.int .i64 0,.int .i64 0]:List Value).all (·.oneCell')=true:=by kernel_rfl
theorem sN:Ba Tryz.prog 270=some [.int .i64 0,.slice none 0 0,.int .i64 0,.int .i64 0]:=by kernel_rfl
theorem ABK:BB Tryz.prog 283=some 1:=by kernel_rfl
theorem VN:EW Tryz.prog 283=true:=by kernel_rfl
theorem Cj:BB Tryz.prog 285=some 4:=by kernel_rfl
theorem DW:Fa Tryz.prog 285=true:=by kernel_rfl
theorem vg:Bz Tryz.prog 285=some 64:=by kernel_rfl
theorem lK:∀ps,Tryz.prog.built 285 ps=Instr.fill (fun i=>(#[(0,1),(1,1),(2,1),(3,1)]:Array (Nat×Nat))[i]?) ([.int .i64 0,.slice none 0 0,.bool false,.slice none 0 0]:List Value).toArray ps:=by intro ps;kernel_rfl
theorem LY:([.int .i64 0,.slice none 0 0,.bool false,.slice none 0 0]:List Value).all (·.oneCell')=true:=by kernel_rfl
theorem Nw:Ba Tryz.prog 285=some [.int .i64 0,.slice none 0 0,.bool false,.slice none 0 0]:=by kernel_rfl
theorem sO:Ab Tryz.prog 285 0=some 0:=by kernel_rfl
theorem VO:Ab Tryz.prog 285 1=some 1:=by kernel_rfl
theorem sP:Ab Tryz.prog 285 2=some 2:=by kernel_rfl
theorem Ms:Ab Tryz.prog 285 3=some 3:=by kernel_rfl
theorem vh:BB Tryz.prog 290=some 2:=by kernel_rfl
theorem ABL:∀ps,Tryz.prog.built 290 ps=Instr.fill (fun i=>(#[(0,1),(1,1)]:Array (Nat×Nat))[i]?) ([.string (ByteArray.mk #[]),.int .i64 0]:List Value).toArray ps:=by intro ps;kernel_rfl
theorem vi:([.string (ByteArray.mk #[]),.int .i64 0]:List Value).all (·.oneCell')=true:=by kernel_rfl
theorem AEz:Ba Tryz.prog 290=some [.string (ByteArray.mk #[]),.int .i64 0]:=by kernel_rfl
theorem sQ:Ab Tryz.prog 290 1=some 1:=by kernel_rfl
end Go.Proofs.YtmocaapoeefgkaaGreatDoor
namespace Cp
open Go Go.RowKit Go.Great
section
variable {P:Program} {L:Lg P} {n:Fm} {fz:Nat} {E:Env} {M0:Av} {w0:World} {S:Nat→Prop} {rs:List At} {o:Oper}
def lens (m:Nat):Pr where
 h _ _ v:=∃a c,v= .slice a m c
 st _M _w _M' _w' _v _ h:=h
instance ABM (m:Nat):One (lens m):=⟨by rintro M w v ⟨a,c,rfl⟩;exact ⟨rfl,rfl⟩⟩
def Fh (e:TypeId) (sz:Nat) (rows:List (List Pr)) (v:Value):At where
 blk:=match v with| .slice (some a) _ _=>some a.block|_=>none
 new:=true
 h M w:=∃(b cap:Nat) (spare:List Value),v= .slice (some ⟨b,0,none⟩) rows.length cap∧rows.length≤cap∧cap≤maxLen∧spare.length=(cap-rows.length)*sz∧(AF true b e (rows.flatten++spare.map is)).h M w
 st M w M' w' he hk h:=by
  obtain ⟨b,cap,spare,rfl,h1,h2,h3,h4⟩:=h
  exact ⟨b,cap,spare,rfl,h1,h2,h3,(AF true b e _).st _ _ _ _ he hk h4⟩
theorem I_ {sz:Nat}:∀{rows:List (List Pr)} {i j:Nat} {row:List Pr},(∀r∈rows,r.length=sz)→rows[i]? =some row→j<sz→rows.flatten[i*sz+j]? =row[j]?
 |[],_,_,_,_,h,_=>by simp at h
 |a::l,0,j,row,hl,h,hj=>by
  simp at h;subst h
  have:=hl a AV
  rw [List.flatten_cons,Nat.zero_mul,Nat.zero_add,List.getElem?_append_left AA]
 |a::l,i+1,j,row,hl,h,hj=>by
  have h1:=hl a AV
  rw [List.flatten_cons,Nat.succ_mul,List.getElem?_append_right AA,h1,show i*sz+sz+j-sz=i*sz+j by omega]
  exact I_ (fun r hr=>hl r (List.mem_cons_of_mem _ hr)) D3 hj
theorem Dr {sz:Nat}:∀{rows:List (List Pr)},(∀r∈rows,r.length=sz)→rows.flatten.length=rows.length*sz
 |[],_=>by simp
 |a::l,h=>by
  rw [List.flatten_cons,List.length_append,Dr (fun r hr=>h r (List.mem_cons_of_mem _ hr)),h a AV,List.length_cons,Nat.succ_mul];omega
theorem Wz {M:Av} {w:World}:∀{ps:List Pr} {vs:List Value},vs.length=ps.length→(∀(k:Nat) p,ps[k]? =some p→∃u,vs[k]? =some u∧p.h M w u)→HL M w ps vs
 |[],[],_,_=>trivial
 |[],_::_,h,_=>by simp at h
 |_::_,[],h,_=>by simp at h
 |p::ps,v::vs,h,hk=>by
  refine ⟨?_,Wz D3 fun k q hq=>by simpa using hk (k+1) q (by simpa using hq)⟩
  obtain ⟨u,hu,hp⟩:=hk 0 p rfl
  simp at hu;subst hu;exact hp
theorem Flat.hl {M:Av} {w:World} {sz:Nat} {rows:List (List Pr)} {news:List Value} (hsz:0<sz) (h:Flat M w sz rows news):HL M w rows.flatten news:=by
 have hl:∀r∈rows,r.length=sz:=fun r hr=>by obtain ⟨i,hi⟩:=List.mem_iff_getElem?.1 hr;exact (h.2.2 i r hi).1
 refine Wz (by rw [h.1,Dr hl]) fun k p hk=> ?_
 have U8:k<rows.length*sz:=by rw [←Dr hl];rcases Nat.lt_or_ge k rows.flatten.length with h|h;exact h;rw [List.getElem?_eq_none h] at hk;cases hk
 have hi:k/sz<rows.length:=Nat.div_lt_of_lt_mul (by rw [Nat.mul_comm];exact U8)
 have hj:k % sz<sz:=Nat.mod_lt _ hsz
 have he:k/sz*sz+k % sz=k:=by rw [Nat.mul_comm];exact Nat.div_add_mod k sz
 have hr:=List.getElem?_eq_getElem hi
 rw [←he,I_ hl hr hj] at hk
 obtain ⟨u,hu,hp⟩:=(h.2.2 _ _ hr).2 _ p hk
 exact ⟨u,by rw [←he];exact hu,hp⟩
theorem HL.flat {M:Av} {w:World} {sz:Nat} {rows:List (List Pr)} {qs:List Pr} {cs:List Value} (hl:∀r∈rows,r.length=sz) (h:HL M w (rows.flatten++qs) cs) (h1:∀c∈cs,c.oneCell'=true):Flat M w sz rows (cs.take (rows.length*sz)):=by
 have hfl:=Dr hl
 have hlen:=h.length
 refine ⟨by rw [List.length_take,hlen,List.length_append,hfl];omega,fun u hu=>h1 u (List.mem_of_mem_take hu),fun i row hi=> ?_⟩
 have hrl:=hl row (List.mem_of_getElem? hi)
 refine ⟨hrl,fun j p hp=> ?_⟩
 have hjl:j<sz:=by rw [←hrl];rcases Nat.lt_or_ge j row.length with h|h;exact h;rw [List.getElem?_eq_none h] at hp;cases hp
 have F8:i<rows.length:=by rcases Nat.lt_or_ge i rows.length with h|h;exact h;rw [List.getElem?_eq_none h] at hi;cases hi
 have hlt:i*sz+j<rows.length*sz:=by have:(i+1)*sz≤rows.length*sz:=Nat.mul_le_mul_right sz F8;rw [Nat.add_mul] at this;omega
 obtain ⟨u,hu,hh⟩:=h.at_ (i*sz+j) p (by rw [List.getElem?_append_left (by rw [hfl];exact hlt),I_ hl hi hjl];exact hp)
 exact ⟨u,by rw [List.getElem?_take,if_pos hlt];exact hu,hh⟩
theorem H_ {zs:List Value} {z:Array Value} {k:Nat} (hz:z.toList=zs) (h1:zs.all (·.oneCell')=true):∀c∈(Builtin.zeroCells z k).toList,c.oneCell'=true:=by
 intro c hc
 simp only [Builtin.zeroCells,Array.toList_map,Array.toList_range,List.mem_map,List.mem_range] at hc
 obtain ⟨i,hi,rfl⟩:=hc
 have hpos:0<z.size:=by rcases Nat.eq_zero_or_pos z.size with h|h;rw [h] at hi;simp at hi;exact h
 have hm:i % z.size<z.size:=Nat.mod_lt _ hpos
 rw [getElem!_pos z _ hm]
 exact List.all_eq_true.1 h1 _ (by rw [←hz];simp)
theorem sS {M:Av} {w:World} {t ty e:TypeId} {sz bytes:Nat} {zs:List Value} {rows:List (List Pr)} {u:Value} {j:Nat} (ht:P.underlying t=some (.slice e)) (hz:BB P e=some sz) (hby:Bz P e=some bytes) (FJ:Ba P e=some zs) (hzl:zs.length=sz) (hone:zs.all (·.oneCell')=true) (hsz:0<sz)
  (h:A9 M0 w0 S rs M w) (hj:rs[j]? =some Bu) (hu:(slice sz rows).h M w u) (hpos:0<rows.length) (G9:rows.length≤maxLen) (hfit:rows.length*bytes≤140737488355328):
  ∃v' w' M',(Builtin.append_ #[t,t] ty #[.slice none 0 0,u]).run P w= .ok v' w'∧(lens rows.length).h M' w' v'∧Ext M w M' w'∧A9 M0 w0 S (rs.set j (Fh e sz rows v')) M' w':=by
 unfold BB at hz
 unfold Bz at hby
 unfold Ba at FJ
 cases hi:P.info? e with
 |none=>rw [hi] at hz;cases hz
 |some i=>
  rw [hi] at hz hby FJ
  simp only [Option.map_some,Option.some.injEq,Option.map_eq_some_iff] at hz hby FJ
  obtain ⟨z,jV,FJ⟩:=FJ
  have hzc:z.cells.size=sz:=by rw [←hzl,←FJ];simp
  obtain ⟨A',c',rfl,hmc,Y6,hA',HE⟩:=hu
  have U2:(slice sz rows).h M w (.slice A' rows.length c'):=⟨A',c',rfl,hmc,Y6,hA',HE⟩
  obtain ⟨TP,rfl⟩:∃TP,A'=some TP:=by
   obtain ⟨_,b,hb,_⟩:=HE 0 _ (List.getElem?_eq_getElem hpos)
   exact ⟨b,hb⟩
  obtain ⟨news,hfl,hcell⟩:=GC hsz U2
  have hrun:=run_append_nil (P:=P) w t ty e i z ht hi jV TP rows.length c' news (by rw [hz];exact hfl.1) (fun k u hk=>(hcell k u hk).1) hpos Uv (by rw [hby];omega)
  generalize hcap:grownCap w rows.length 0 e=cap at hrun
  have hge:rows.length≤cap:=by rw [←hcap];exact grownCap_ge _ _ _ _
  have hle:cap≤maxLen:=by rw [←hcap];exact grownCap_le_maxLen _ _ _ _ G9
  generalize Sn:Builtin.zeroCells z.cells (cap-rows.length)=zc at hrun
  have hzs:zc.size=(cap-rows.length)*sz:=by rw [←Sn,size_zeroCells,hzc]
  have hzo:∀c∈zc.toList,c.oneCell'=true:=by rw [←Sn];exact H_ FJ hone
  have hb:Below w.heap.size w (w.drew.alloc (.cells (news.toArray++zc) e)):=((Below.refl _ _).drew).alloc (Nat.le_refl _) _
  have h2:=Ext.below (M:=M) hb
  have E4:Ext M w (fun b o=>M b o∨b=w.heap.size) (w.drew.alloc (.cells (news.toArray++zc) e)):=by
   refine ⟨h2.size,fun a v hc hm=>⟨fun hx=> ?_,(h2.keep a v hc hm).2⟩,fun b o ho hp hm=>⟨fun hx=> ?_,(h2.obj b o ho hp hm).2⟩⟩
   ·
    rcases hx with hx|hx
    · exact Cb
    · exact FC
   ·
    rcases hx with hx|hx
    · exact Cb
    · exact FD
  have hs1:(w.drew.alloc (.cells (news.toArray++zc) e)).heap.size=w.heap.size+1:=by simp
  refine ⟨_,_,fun b o=>M b o∨b=w.heap.size,hrun,⟨_,_,rfl⟩,E4,?_⟩
  refine h.replace hj E4 hb.os hb.tape hb.output (fun k hk _=>hb.block k hk) rfl (fun b o hm _=> .inl hm) (fun b o hx=> ?_) ?_ rfl (fun b hbk=> ?_)
  ·
   rcases hx with hx|hx
   · exact Me
   · omega
  ·
   refine ⟨w.heap.size,cap,zc.toList,rfl,hge,hle,by simpa using hzs,fun o=> .inr rfl,news++zc.toList,?_,?_,?_⟩
   ·
    have hh:(w.drew.alloc (.cells (news.toArray++zc) e)).heap[w.heap.size]? =some (.cells (news.toArray++zc) e (0,0)):=heap_alloc_new w.drew _
    rw [hh];simp
   · exact ((hfl.st E4).hl hsz).app (J1 _ _ _)
   ·
    intro c hc
    rcases List.mem_append.1 hc with hc|hc
    · exact hfl.2.1 c hc
    · exact hzo c hc
  ·
   have Ex:some w.heap.size=some b:=hbk
   injection Ex with e1
   subst e1
   exact ⟨by rw [hs1];omega,.inr (Nat.le_refl _)⟩
theorem A9.frz {M:Av} {w:World} {b cap sz:Nat} {e:TypeId} {rows:List (List Pr)} {qs:List Pr} {j:Nat} (h:A9 M0 w0 S rs M w) (hj:rs[j]? =some (AF true b e (rows.flatten++qs))) (hl:∀r∈rows,r.length=sz) (hc:rows.length≤cap) (hm:cap≤maxLen) (hq:qs.length=(cap-rows.length)*sz):
  ∃M',Ext M w M' w∧A9 M0 w0 S (rs.set j (Aw e sz (.slice (some ⟨b,0,none⟩) rows.length cap))) M' w∧(slice sz rows).h M' w (.slice (some ⟨b,0,none⟩) rows.length cap):=by
 obtain ⟨⟨hM,cs,hh,hcs,hone⟩,hbb⟩:=h.hold _ (List.mem_of_getElem? hj)
 have W0:=(hbb b rfl).1
 have hfl:=HL.flat hl hcs hone
 have hlen:=hcs.length
 rw [List.length_append,Dr hl,hq,←Nat.add_mul,show rows.length+(cap-rows.length)=cap by omega] at hlen
 have he:Ext M w (fun b' o=>M b' o∧¬(b'=b∧o<rows.length*sz)) w:=Ext.less fun _ _ h=>h.1
 refine ⟨_,he,?_,E5 (hfl.st he) hc hm fun k u hk=> ?_⟩
 ·
  refine h.replace hj he rfl rfl rfl (fun _ _ _=>rfl) rfl (fun b' o hm' hne=>⟨hm',fun hx=>hne (by rw [hx.1];rfl)⟩) (fun b' o hx=>h.bd _ _ hx.1) ?_ rfl (fun b' hbk=> ?_)
  ·
   intro a' n' c' hv hlt
   injection hv with e1 e2 e3
   injection e1 with e1
   subst e1;subst e2;subst e3
   refine ⟨⟨cs.take (rows.length*sz),hfl.1,.inr ⟨b,cap,cs.toArray,rfl,Nat.zero_le _,hh,hc,hm,by simpa using hlen,by simp⟩⟩,fun o ho=>⟨hM o,fun hx=>by omega⟩⟩
  ·
   have Ex:Dl (.slice (some ⟨b,0,none⟩) rows.length cap)=some b':=hbk
   simp only [Dl] at Ex
   split at Ex
   · simp at Ex;subst Ex;exact ⟨W0,.inl rfl⟩
   · cases Ex
 ·
  have U8:k<rows.length*sz:=by rw [←hfl.1];rcases Nat.lt_or_ge k (cs.take (rows.length*sz)).length with h|h;exact h;rw [List.getElem?_eq_none h] at hk;cases hk
  rw [List.getElem?_take,if_pos U8] at hk
  exact ⟨by simp [World.cell?,hh,hk],fun hx=>hx.2 ⟨rfl,U8⟩⟩
theorem St.sU {b b0 cap sz:Nat} {e T:TypeId} {new:Bool} {rows:List (List Pr)} {qs ps ps':List Pr} (j i k:Nat) {p:Pr} (hj:rs[j]? =some (AF true b e (rows.flatten++qs))) (hi:rs[i]? =some (AF new b0 T ps)) (hij:j≠i) (hk:ps[k]? =some p) (hp:Pr.le p (is (.slice (some ⟨b,0,none⟩) rows.length cap)))
  (hl:∀r∈rows,r.length=sz) (hc:rows.length≤cap) (hm:cap≤maxLen) (hq:qs.length=(cap-rows.length)*sz) (hps:ps.set k (Ad (.slice (some ⟨b,0,none⟩) rows.length cap) (slice sz rows))=ps')
  {a:Act} {w:World} (h:St n E (Hp M0 w0 S rs) a w):St n E (Hp M0 w0 S ((rs.set j (Aw e sz (.slice (some ⟨b,0,none⟩) rows.length cap))).set i (AF new b0 T ps'))) a w:=by
 obtain ⟨M,h1,h2,h3,h4⟩:=h
 obtain ⟨M',h5,h6,h7⟩:=A9.frz h4 hj hl hc hm hq
 have hi':(rs.set j (Aw e sz (.slice (some ⟨b,0,none⟩) rows.length cap)))[i]? =some (AF new b0 T ps):=by rw [List.getElem?_set,if_neg hij];exact hi
 obtain ⟨h8,cs,h9,h10,h11⟩:=(h6.hold _ (List.mem_of_getElem? hi')).1
 refine ⟨M',h1,h2,fun s q hs=>q.st _ _ _ _ _ h5 (h3 s q hs),h6.C4 hi' rfl rfl ⟨h8,cs,h9,?_,h11⟩⟩
 subst hps
 refine Wz (by rw [h10.length];simp) fun k' p' hk'=> ?_
 rw [List.getElem?_set] at hk'
 split at hk'
 ·
  rename_i e1
  subst e1
  split at hk'
  ·
   obtain ⟨u,hu,hpu⟩:=h10.at_ k p hk
   simp at hk';subst hk'
   have:=hp _ _ _ hpu
   refine ⟨u,hu,this,?_⟩
   have hu2:u= .slice (some ⟨b,0,none⟩) rows.length cap:=this
   rw [hu2];exact h7
  · cases hk'
 · exact h10.at_ k' p' hk'
theorem Tr.sU {Q:Exit→Act→World→Prop} {c:Code} {b b0 cap sz:Nat} {e T:TypeId} {new:Bool} (rows:List (List Pr)) {qs ps ps':List Pr} (j i k:Nat) {p:Pr} (hj:rs[j]? =some (AF true b e (rows.flatten++qs))) (hi:rs[i]? =some (AF new b0 T ps)) (hij:j≠i) (hk:ps[k]? =some p) (hp:Pr.le p (is (.slice (some ⟨b,0,none⟩) rows.length cap)))
  (hl:∀r∈rows,r.length=sz) (hc:rows.length≤cap) (hm:cap≤maxLen) (hq:qs.length=(cap-rows.length)*sz) (hps:ps.set k (Ad (.slice (some ⟨b,0,none⟩) rows.length cap) (slice sz rows))=ps')
  (k':Tr L n E (Hp M0 w0 S ((rs.set j (Aw e sz (.slice (some ⟨b,0,none⟩) rows.length cap))).set i (AF new b0 T ps'))) c Q):Tr L n E (Hp M0 w0 S rs) c Q:=
 Tr.conv (fun _ _ hs=>hs.sU j i k hj hi hij hk hp hl hc hm hq hps) k'
end
abbrev str (l:List UInt8):Pr:=is (.string ⟨l.toArray⟩)
theorem Lz (l:List UInt8):(ByteArray.mk l.toArray).toList=l:=by rw [ByteArray.toList_eq]
theorem RE (l:List UInt8):(ByteArray.mk l.toArray).size=l.length:=rfl
section
variable {P:Program} {L:Lg P} {E:Env} {I:Ck} {o:Oper}
theorem xW {t u:TypeId} {x y:Operand} {a b:List UInt8} (ho:o.op= .binOp .eql t x y u) (hx:VL E x (str a)) (hy:VL E y (str b)):Ag P I o E (bool (decide (a=b))):=
 Ag.same fun M w ac he _=>by
  have h1:ac.eval x=_:=hx.ev he Au
  have h2:ac.eval y=_:=hy.ev he Au
  refine ⟨_,by simp [execOp,ho,h1,h2,eqGuard,binOp,Op.stringOp,Lz];rfl,?_⟩
  show Value.bool _=Value.bool _
  congr 1
  rw [Bool.eq_iff_iff];simp
theorem xX {t u:TypeId} {x y:Operand} {a b:List UInt8} (ho:o.op= .binOp .neq t x y u) (hx:VL E x (str a)) (hy:VL E y (str b)):Ag P I o E (bool (!decide (a=b))):=
 Ag.same fun M w ac he _=>by
  have h1:ac.eval x=_:=hx.ev he Au
  have h2:ac.eval y=_:=hy.ev he Au
  refine ⟨_,by simp [execOp,ho,h1,h2,eqGuard,binOp,Op.stringOp,Lz];rfl,?_⟩
  show Value.bool _=Value.bool _
  congr 1
  rw [Bool.eq_iff_iff];simp
theorem W4:∀(a b:List UInt8),Op.bytesLess a b=decide (Lib.compareBytes a b= -1)
 |_,[]=>by cases ‹List UInt8›<;>simp [Op.bytesLess,Lib.compareBytes]
 |[],_::_=>by simp [Op.bytesLess,Lib.compareBytes]
 |a::x,b::y=>by
  rw [Op.bytesLess,W4 x y,Lib.compareBytes]
  by_cases h1:a<b
  · simp [h1]
  ·
   by_cases h2:b<a
   ·
    have h3:a≠b:=fun e=>by subst e;exact h1 h2
    simp [h1,h2,h3]
   ·
    have h3:a=b:=UInt8.le_antisymm (UInt8.not_lt.1 h2) (UInt8.not_lt.1 h1)
    simp [h1,h2,h3]
theorem RF {t u:TypeId} {x y:Operand} {a b:List UInt8} (ho:o.op= .binOp .geq t x y u) (hx:VL E x (str a)) (hy:VL E y (str b)):Ag P I o E (bool (!decide (Lib.compareBytes a b= -1))):=
 Ag.same fun M w ac he _=>by
  have h1:ac.eval x=_:=hx.ev he Au
  have h2:ac.eval y=_:=hy.ev he Au
  exact ⟨_,by simp [execOp,ho,h1,h2,eqGuard,binOp,Op.stringOp,Lz,W4],rfl⟩
theorem sV {t:TypeId} {x:Operand} {a:List UInt8} (ho:o.op= .call { callee:= .builtin .len,args:= #[x],argTypes:= #[t] }) (ht:P.underlying t=some .string) (hx:VL E x (str a)):Ag P I o E (int ((a.length:Nat):Int)):=
 Ag.same fun M w ac he _=>by
  have h1:ac.eval x=_:=hx.ev he Dj
  exact ⟨.int .i64 a.length,by simp [execOp,ho,resolve,invoke,builtin,Builtin.len_,h1,run_underlying ht,goInt,RE],rfl⟩
theorem VP {t:TypeId} {x y:Operand} {k:IntKind} {a:List UInt8} {i:Int} {c:UInt8} (ho:o.op= .index t x y) (ht:P.underlying t=some .string) (hx:VL E x (str a)) (hy:VL E y (is (.int k i))) (h0:0≤i) (hc:a[i.toNat]? =some c):Ag P I o E (is (.int .u8 c.toNat)):=
 Ag.same fun M w ac he _=>by
  have h1:ac.eval x=_:=hx.ev he Au
  have h2:ac.eval y=_:=hy.ev he Au
  refine ⟨_,?_,rfl⟩
  have hlt:i.toNat<a.length:=by rcases Nat.lt_or_ge i.toNat a.length with h|h;exact h;rw [List.getElem?_eq_none h] at hc;cases hc
  have h3:(ByteArray.mk a.toArray)[i.toNat]? =some c:=by
   rw [getElem?_pos (ByteArray.mk a.toArray) i.toNat (by rw [RE];exact hlt)]
   rw [List.getElem?_eq_getElem hlt] at hc
   simp only [Option.some.injEq] at hc
   rw [←hc]
   rfl
  simp [execOp,ho,h1,h2,Instr.index,asIntOf,run_underlying ht,h0,h3]
theorem lM {s t e:TypeId} {x:Operand} {a:List UInt8} (ho:o.op= .convert s t x) (hs:P.underlying s=some .string) (ht:P.underlying t=some (.slice e)) (he:P.underlying e=some (.int .u8)) (hx:VL E x (str a)) (hm:a.length≤maxLen):Ag P I o E (slice 1 (a.map fun c=>[is (.int .u8 c.toNat)])):=
 Ag.val fun M w ac hev hI=>by
  have h1:ac.eval x=_:=hx.ev hev Au
  have hrun:=Lib.run_convert_string_bytes (P:=P) w s t e ⟨a.toArray⟩ hs ht he
  have hcap:=grownCap_ge w a.length 0 e
  have hcm:=grownCap_le_maxLen w a.length 0 e hm
  refine ⟨.slice (some ⟨w.heap.size,0,none⟩) a.length (grownCap w a.length 0 e),Lib.bytesWorld w e ⟨a.toArray⟩,by simp [execOp,ho,h1,hrun];exact ⟨rfl,rfl⟩,?_,?_⟩
  ·
   have hbd:Bd M w:=I.bd _ _ hI
   refine ⟨_,grownCap w a.length 0 e,by rw [List.length_map],by rw [List.length_map];exact hcap,hcm,(fun h=>by cases h),fun i row hr=> ?_⟩
   rw [List.getElem?_map] at hr
   cases hc:a[i]? with
   |none=>rw [hc] at hr;cases hr
   |some c=>
    rw [hc] at hr
    simp only [Option.map_some,Option.some.injEq] at hr
    subst hr
    have F8:i<a.length:=by rcases Nat.lt_or_ge i a.length with h|h;exact h;rw [List.getElem?_eq_none h] at hc;cases hc
    refine ⟨rfl,_,rfl,fun j p hp=> ?_⟩
    have hj:j=0:=by
     rcases Nat.eq_zero_or_pos j with h|h
     · exact h
     · exact PM
    subst hj
    simp only [List.getElem?_cons_zero,Option.some.injEq] at hp
    subst hp
    refine ⟨.int .u8 c.toNat,?_,fun hmm=> ?_,rfl,rfl⟩
    ·
     rw [show Addr.add ⟨w.heap.size,0,none⟩ (i*1+0)=⟨w.heap.size,i,none⟩ by unfold Addr.add;split<;>simp_all]
     rw [Lib.bytesWorld_cell w e ⟨a.toArray⟩ i (by rw [RE];exact F8)]
     have:([]++a).getD i 0=c:=by simp [hc]
     simp [hc]
    · have:=hbd _ _ hmm;simp at this
  · exact Lib.bytesWorld_below w e ⟨a.toArray⟩
theorem VQ {a:List UInt8} {k:Nat} {c:UInt8} (h:a[k]? =some c):a[((k:Nat):Int).toNat]? =some c:=h
theorem VR {M:Av} {w:World} {v:Value} {xs:List Value} (h:(agg (xs.map is)).h M w v):v= .agg xs.toArray:=by
 obtain ⟨cs,rfl,ho,h2⟩:=h
 congr 1
 have:cs=xs:=by
  clear ho
  induction xs generalizing cs with
  |nil=>cases cs with
   |nil=>rfl
   |cons c cs=>exact h2.elim
  |cons x xs ih=>cases cs with
   |nil=>exact h2.elim
   |cons c cs=>rw [ih cs h2.2,show c=x from h2.1]
 rw [this]
theorem Mt {t u:TypeId} {x y:Operand} {r:Bool} (xs ys:List Value) (ho:o.op= .binOp .eql t x y u) (hx:VL E x (agg (xs.map is))) (hy:VL E y (agg (ys.map is))) (hg:P.eqGuardType P.depth t=false) (hr:∀w,(Op.equal t (.agg xs.toArray) (.agg ys.toArray)).run P w= .ok r w):Ag P I o E (bool r):=
 Ag.same fun M w ac he _=>by
  have h1:=VR (hx.ev he Au)
  have h2:=VR (hy.ev he Au)
  exact ⟨_,by simp [execOp,ho,h1,h2,eqGuard,hg,binOp,hr w],rfl⟩
theorem RG {t u:TypeId} {x y:Operand} {r:Bool} (xs ys:List Value) (ho:o.op= .binOp .neq t x y u) (hx:VL E x (agg (xs.map is))) (hy:VL E y (agg (ys.map is))) (hg:P.eqGuardType P.depth t=false) (hr:∀w,(Op.equal t (.agg xs.toArray) (.agg ys.toArray)).run P w= .ok r w):Ag P I o E (bool (!r)):=
 Ag.same fun M w ac he _=>by
  have h1:=VR (hx.ev he Au)
  have h2:=VR (hy.ev he Au)
  exact ⟨_,by simp [execOp,ho,h1,h2,eqGuard,hg,binOp,hr w],rfl⟩
theorem eqS {P:Program} {w:World} {d:Nat} {t:TypeId} {fs:Array Field} {xs ys:Array Value} {r:Bool} (ht:P.underlying t=some (.struct fs)) (hp:P.stoodInHeld t=false) (h:(Op.eqFields d xs ys fs.toList).run P w= .ok r w):(Op.equalIn (d+1) t (.agg xs) (.agg ys)).run P w= .ok r w:=by
 have hf:P.fieldsOf t=fs:=by unfold Program.fieldsOf;rw [ht]
 rw [run_equalIn_struct w d t xs ys (by rw [hf];exact ht) hp,hf];exact h
theorem Mu {P:Program} {w:World} {d:Nat} {xs ys:Array Value}:(Op.eqFields d xs ys []).run P w= .ok true w:=by simp [Op.eqFields]
theorem E_ {P : Program} {w : World} {d : Nat} {xs ys : Array Value} {f : Field} {fs : List Field} {vx vy : Value} {r q : Bool} (hn : f.name ≠ "_") (ha : (part f.type xs f.offset).run P w = .ok vx w) (hb : (part f.type ys f.offset).run P w = .ok vy w)
  (he:(Op.equalIn d f.type vx vy).run P w= .ok r w) (hr:(Op.eqFields d xs ys fs).run P w= .ok q w):(Op.eqFields d xs ys (f::fs)).run P w= .ok (r&&q) w:=by
 simp only [Op.eqFields,hn,ne_eq,not_false_eq_true,if_true,Sem.run_bind,ha,hb,he,Result.andThen_ok]
 cases r
 · simp
 · simpa using hr
theorem CJ {P:Program} {w:World} {t:TypeId} {cs:Array Value} {off:Nat} {v:Value} (h1:EW P t=true) (hv:cs[off]? =some v):(part t cs off).run P w= .ok v w:=by
 simp [part,EV h1,hv]
theorem GW {P:Program} {w:World} {d:Nat} {t:TypeId} {k:IntKind} {a b:Int} (h:P.underlying t=some (.int k)):(Op.equalIn (d+1) t (.int k a) (.int k b)).run P w= .ok (decide (a=b)) w:=by
 rw [run_equalIn_int w d t k k a b h];rfl
end
section
variable {P:Program} {L:Lg P} {E:Env} {I:Ck} {o:Oper}
theorem RH {M:Av} {w:World} {sz:Nat} {rows:List (List Pr)} {A:Option Addr} {cap lo hi:Nat} (h:(slice sz rows).h M w (.slice A rows.length cap)) (h1:lo≤hi) (h2:hi≤rows.length):
  (slice sz ((rows.take hi).drop lo)).h M w (.slice (if cap=lo then A else A.map (·.add (lo*sz))) (hi-lo) (cap-lo)):=by
 obtain ⟨A',cap',hv,hc,hm,hA,hr⟩:=h
 injection hv with e1 _ e3
 subst e1;subst e3
 have hlen:((rows.take hi).drop lo).length=hi-lo:=by rw [List.length_drop,List.length_take];omega
 refine ⟨_,cap-lo,by rw [hlen],by rw [hlen];omega,by omega,fun h=> ?_,fun i row hi'=> ?_⟩
 ·
  split at h
  · have:=hA h;omega
  ·
   cases hA2:A with
   |none=>have:=hA hA2;omega
   |some a=>rw [hA2] at h;cases h
 ·
  rw [List.getElem?_drop,List.getElem?_take] at hi'
  split at hi'
  ·
   rename_i hlt
   obtain ⟨h3,ad,h4,h5⟩:=hr _ row hi'
   subst h4
   rw [if_neg AA]
   refine ⟨h3,_,rfl,fun j p hp=> ?_⟩
   obtain ⟨u,h6,h7,h8,h9⟩:=h5 j p hp
   refine ⟨u,?_,?_,h8,h9⟩
   · rw [add_add,show lo*sz+(i*sz+j)=(lo+i)*sz+j by rw [Nat.add_mul];omega];exact h6
   · rw [II,Mf,show ad.off+lo*sz+(i*sz+j)=ad.off+((lo+i)*sz+j) by rw [Nat.add_mul];omega];exact h7
  · cases hi'
theorem DY {t e:TypeId} {x y:Operand} {k:IntKind} {h:Int} {sz:Nat} {rows:List (List Pr)} (ho:o.op= .slice t x none (some y) none) (ht:P.underlying t=some (.slice e)) (hz:BB P e=some sz) (hx:VL E x (slice sz rows)) (hy:VL E y (is (.int k h))) (h0:0≤h) (hl:h≤rows.length):
  Ag P I o E (slice sz (rows.take h.toNat)):=
 Ag.same fun M w a he _=>by
  have h1:=hx.ev he Au
  have h3:a.eval y=_:=hy.ev he Au
  obtain ⟨A,cap,hv,hc,hm,hA,hr⟩:=h1
  have h2:=RH (lo:=0) (hi:=h.toNat) (show (slice sz rows).h M w (.slice A rows.length cap) from ⟨A,cap,rfl,hc,hm,hA,hr⟩) AA AA
  refine ⟨_,?_,by simpa using h2⟩
  have hb:h≤(cap:Int):=by omega
  simp [execOp,ho,hv,h3,Instr.sliceAt,Instr.slice,run_underlying ht,Instr.sliceBounds,Instr.sliceBound,asIntOf,h0,hb,C0 hz]
theorem DL {t e:TypeId} {x y:Operand} {k:IntKind} {l:Int} {sz:Nat} {rows:List (List Pr)} (ho:o.op= .slice t x (some y) none none) (ht:P.underlying t=some (.slice e)) (hz:BB P e=some sz) (hx:VL E x (slice sz rows)) (hy:VL E y (is (.int k l))) (h0:0≤l) (hl:l≤rows.length):
  Ag P I o E (slice sz (rows.drop l.toNat)):=
 Ag.same fun M w a he _=>by
  have h1:=hx.ev he Au
  have h3:a.eval y=_:=hy.ev he Au
  obtain ⟨A,cap,hv,hc,hm,hA,hr⟩:=h1
  have h2:=RH (lo:=l.toNat) (hi:=rows.length) (show (slice sz rows).h M w (.slice A rows.length cap) from ⟨A,cap,rfl,hc,hm,hA,hr⟩) AA (Nat.le_refl _)
  rw [List.take_length] at h2
  refine ⟨_,?_,h2⟩
  simp [execOp,ho,hv,h3,Instr.sliceAt,Instr.slice,run_underlying ht,Instr.sliceBounds,Instr.sliceBound,asIntOf,h0,hl,C0 hz]
end
section
variable {P:Program} {L:Lg P} {n:Fm} {fz:Nat} {E:Env} {M0:Av} {w0:World} {S:Nat→Prop} {rs:List At} {o:Oper} {g:Func} {M1:Av} {w1:World}
theorem results0 {g:Func} {a:Act} {w:World} (hr:g.results= #[]):(results g a.tmps).run P w= .ok (.tuple #[]) w:=by
 rw [HH,hr];simp [Sem.run_bind]
def ck (E:Env) (v0:Value) (q0:Pr):List Operand→List Pr→Prop
 |[],[]=>True
 |x::xs,p::ps=>(VL E x p∨(VL E x (is v0)∧Pr.le (Ad v0 q0) p))∧ck E v0 q0 xs ps
 |_,_=>False
theorem ck.ev {M M':Av} {w:World} {a:Act} {v0:Value} {q0:Pr} (he:Cc M w E o a) (hx:Ext M w M' w) (h0:q0.h M' w v0):∀{xs:List Operand} {ps:List Pr},(∀x∈xs,x∈o.op.operands.toList)→ck E v0 q0 xs ps→HL M' w ps (xs.map a.eval)
 |[],[],_,_=>trivial
 |[],_::_,_,h=>h.elim
 |_::_,[],_,h=>h.elim
 |x::xs,p::ps,hm,h=>by
  refine ⟨?_,ck.ev he hx h0 (fun y hy=>hm y (List.mem_cons_of_mem _ hy)) h.2⟩
  rcases h.1 with h1|⟨h1,h2⟩
  · exact p.st _ _ _ _ _ hx (h1.ev he (hm x AV))
  ·
   have h3:a.eval x=v0:=h1.ev he (hm x AV)
   exact h2 _ _ _ ⟨h3,by rw [h3];exact h0⟩
class RI (p:Pr):Prop where
 free:∀M M' w v,p.h M w v→p.h M' w v
instance ADh (u:Value):RI (is u):=⟨fun _ _ _ _ h=>h⟩
instance zV (m:Nat):RI (lens m):=⟨fun _ _ _ _ h=>h⟩
end
def W6 (es:List (Value×Value)):Array MapEntry:=(es.zipIdx.map fun p=>({ key:=p.1.1,val:=p.1.2,born:=p.2 }:MapEntry)).toArray
theorem RJ (es:List (Value×Value)) (i:Nat):(W6 es)[i]? =(es[i]?).map fun p=>{ key:=p.1,val:=p.2,born:=i }:=by
 simp [W6,List.getElem?_zipIdx]
 cases es[i]? <;>simp
structure AE0 (P:Program) (T kt et:TypeId) {κ:Type} [DecidableEq κ] (enc:κ→Value):Prop where
 und:P.underlying T=some (.map kt et)
 zero:∀w,(zeroValue et).run P w= .ok (.int .i64 0) w
 eq:∀a b w,(Op.equal kt (enc a) (enc b)).run P w= .ok (decide (a=b)) w
 chk:∀e a w,(Instr.checkKey e 10000 kt (enc a)).run P w= .ok () w
 AE1:∃d,P.underlying kt=some d∧((∀a b,Instr.sameNow d (enc a) (enc b)=none)∨∀a b,Instr.sameNow d (enc a) (enc b)=some (decide (a=b)))
 bits:∀a,Instr.sameBits 10000 (enc a) (enc a)=true
section
variable {P:Program} {L:Lg P} {n:Fm} {fz:Nat} {E:Env} {M0:Av} {w0:World} {S:Nat→Prop} {rs:List At} {o:Oper} {κ:Type} [DecidableEq κ] {enc:κ→Value}
abbrev RK (enc:κ→Value) (es:List (κ×Int)):List (Value×Value):=es.map fun p=>(enc p.1,.int .i64 p.2)
def xY (enc:κ→Value) (b:Nat) (es:List (κ×Int)):At where
 blk:=some b
 new:=true
 h M w:=(∀o,M b o)∧w.heap[b]? =some (.map (W6 (RK enc es)) es.length)
 st M w M' w' he hk h:=by
  obtain ⟨h1,h2⟩:=hk b rfl
  exact ⟨fun o=>h2 o (h.1 o),h1.trans h.2⟩
theorem A9.ABN {M:Av} {w:World} {obj:Obj} {r:At} (h:A9 M0 w0 S rs M w) (hb:r.blk=some w.heap.size) (hn:r.new=true) (hr:r.h (fun b o=>M b o∨b=w.heap.size) (w.alloc obj)):
  A9 M0 w0 S (r::rs) (fun b o=>M b o∨b=w.heap.size) (w.alloc obj)∧Ext M w (fun b o=>M b o∨b=w.heap.size) (w.alloc obj):=by
 have W0:Below w.heap.size w (w.alloc obj):=(Below.refl _ _).alloc (Nat.le_refl _) _
 have hsz:(w.alloc obj).heap.size=w.heap.size+1:=by simp
 have he:Ext M w (fun b o=>M b o∨b=w.heap.size) (w.alloc obj):=by
  have h2:=Ext.below (M:=M) W0
  refine ⟨h2.size,fun a v hc hm=>⟨fun hx=> ?_,(h2.keep a v hc hm).2⟩,fun b o ho hp hm=>⟨fun hx=> ?_,(h2.obj b o ho hp hm).2⟩⟩
  ·
   rcases hx with hx|hx
   · exact Cb
   · exact FC
  ·
   rcases hx with hx|hx
   · exact Cb
   · exact FD
 have hI:=(Hp M0 w0 S rs).st _ _ _ W0 h
 refine ⟨⟨hI.m0,fun b o hm=> .inl (hI.m b o hm),hI.os,hI.tape,hI.output,hI.size,hI.block,fun b o hm=> ?_,fun r' hr'=> ?_,?_⟩,he⟩
 ·
  rcases hm with hm|hm
  · exact hI.bd b o hm
  · omega
 ·
  rcases List.mem_cons.1 hr' with rfl|hr'
  ·
   refine ⟨hr,fun b hbk=> ?_⟩
   rw [hb] at hbk
   injection hbk with hbk
   subst hbk
   exact ⟨by omega,by rw [hn];simpa using h.size⟩
  ·
   obtain ⟨h3,h4⟩:=h.hold r' hr'
   exact ⟨r'.st _ _ _ _ he (fun b hbk=>⟨W0.block b (h4 b hbk).1,fun _ x=> .inl x⟩) h3,fun b hbk=>⟨by have:=(h4 b hbk).1;omega,(h4 b hbk).2⟩⟩
 ·
  refine List.Pairwise.cons (fun r' hr' b hbk Ex=> ?_) h.nd
  rw [hb] at hbk
  injection hbk with hbk
  have:=((h.hold r' hr').2 b Ex).1
  omega
def DH (w:World) (b:Nat) (o:Obj):World:={ w with heap:=w.heap.setIfInBounds b o }
theorem sW {w:World} {b:Nat} {o:Obj} (h:b<w.heap.size):(DH w b o).heap[b]? =some o:=by
 show (w.heap.setIfInBounds b o)[b]? =_
 rw [Array.getElem?_setIfInBounds];simp [h]
theorem L1 {w:World} {b k:Nat} {o:Obj} (h:k≠b):(DH w b o).heap[k]? =w.heap[k]? :=by
 show (w.heap.setIfInBounds b o)[k]? =_
 rw [Array.getElem?_setIfInBounds,if_neg (fun e=>h e.symm)]
theorem A9.AE2 {M:Av} {w:World} {obj:Obj} {r r':At} {j b:Nat} (h:A9 M0 w0 S rs M w) (hj:rs[j]? =some r) (hb:r.blk=some b) (hb':r'.blk=some b) (hn:r.new=true) (hn':r'.new=true) (hM:∀o,M b o) (hr:r'.h M (DH w b obj)):
  A9 M0 w0 S (rs.set j r') M (DH w b obj)∧Ext M w M (DH w b obj):=by
 have hlt:=((h.hold r (List.mem_of_getElem? hj)).2 b hb).1
 have hsz:(DH w b obj).heap.size=w.heap.size:=by simp [DH]
 have he:Ext M w M (DH w b obj):=by
  refine ⟨by omega,fun a v hc hm=>⟨hm,?_⟩,fun k o ho hp hm=>⟨hm,?_⟩⟩
  · rw [World.cell?_of_block (w:=w) (L1 (fun e=>hm (by rw [e];exact hM _)))];exact hc
  · rw [L1 (fun e=>hm (by rw [e];exact hM _))];exact ho
 refine ⟨h.replace hj he rfl rfl rfl (fun k _ hk=>L1 (fun e=>hk (by rw [hb,e]))) hn (fun _ _ hm _=>hm) (fun k o hm=>by rw [hsz];exact h.bd k o hm) hr hn' (fun k hk=> ?_),he⟩
 rw [hb'] at hk
 injection hk with hk
 subst hk
 exact ⟨by omega,.inl hb⟩
variable {Q:Exit→Act→World→Prop} {ops:Array Oper} {r:List Oper}
def Oe (it b m:Nat) (seen:List Nat):At where
 blk:=some it
 new:=true
 h M w:=(∀o,M it o)∧w.heap[it]? =some (.mapIter (some b) m seen.toArray m)
 st M w M' w' he hk h:=by
  obtain ⟨h1,h2⟩:=hk it rfl
  exact ⟨fun o=>h2 o (h.1 o),h1.trans h.2⟩
theorem TO.range {d j b:Nat} {T kt et:TypeId} {x:Operand} {es:List (κ×Int)} (hT:AE0 P T kt et enc) (hg:o.guard=none) (hd:o.dst=some d) (hn:d<n) (ho:o.op= .range T x) (hx:VL E x (is (.map (some b)))) (hj:rs[j]? =some (xY enc b es))
  (k:∀it,TO P n ops r ((d,ptr it 0)::E) (Hp M0 w0 S (Oe it b es.length []::rs)) Q):TO P n ops (o::r) E (Hp M0 w0 S rs) Q:=
 TO.ff hg fun K M w a hsz hdf he hI hK=>by
  have h1:a.eval x=_:=hx.ev (o:=o) (CX he) Au
  obtain ⟨_,hh⟩:=(A9.hold hI _ (List.mem_of_getElem? hj)).1
  refine TO.val (v:= .pointer (some ⟨w.heap.size,0,none⟩)) (w':=w.alloc (.mapIter (some b) es.length #[] es.length)) ?_ ?_
  · simp [execOp,ho,h1,run_range_map w T kt et b _ _ hT.und hh]
  ·
   obtain ⟨h2,h3⟩:=A9.ABN (obj:= .mapIter (some b) es.length #[] es.length) (r:=Oe w.heap.size b es.length []) hI rfl rfl ⟨fun _=> .inr rfl,by rw [heap_alloc_new]⟩
   refine hK _ _ _ _ (k w.heap.size) ⟨_,by rw [B9];exact hsz,by rw [put_defers];exact hdf,?_,h2⟩
   intro s p hp
   simp only [List.lookup] at hp
   by_cases hs:s=d
   · exact Qg
   ·
    rw [show (s==d)=false by simpa using hs] at hp
    rw [hd,BZ hs]
    exact p.st _ _ _ _ _ h3 (he s p hp)
theorem mem_left {es:List (Value×Value)} {seen:List Nat} {e:MapEntry}:e∈(leftOf (W6 es) seen.toArray).toList↔∃q p,es[q]? =some p∧q∉seen∧e={ key:=p.1,val:=p.2,born:=q }:=by
 unfold leftOf
 rw [Array.toList_filter,List.mem_filter]
 constructor
 ·
  rintro ⟨h1,h2⟩
  obtain ⟨q,hq⟩:=List.mem_iff_getElem?.1 h1
  rw [Array.getElem?_toList,RJ] at hq
  cases hp:es[q]? with
  |none=>rw [hp] at hq;cases hq
  |some p=>
   rw [hp] at hq
   simp only [Option.map_some,Option.some.injEq] at hq
   subst hq
   exact ⟨q,p,hp,by simpa using h2,rfl⟩
 ·
  rintro ⟨q,p,hp,hq,rfl⟩
  exact ⟨List.mem_iff_getElem?.2 ⟨q,by rw [Array.getElem?_toList,RJ,hp];rfl⟩,by simpa using hq⟩
theorem VS {w:World} (ty:TypeId) {it b m:Nat} {seen:List Nat} {es:List (Value×Value)} (hm:es.length=m) (hit:w.heap[it]? =some (.mapIter (some b) m seen.toArray m)) (hb:w.heap[b]? =some (.map (W6 es) m)):
  ((∀q,q<m→q∈seen)∧(Instr.next (.pointer (some ⟨it,0,none⟩)) false ty).run P w= .ok (.tuple #[.bool false]) w)∨
  ∃q p,es[q]? =some p∧q∉seen∧∃w1,(w1=w∨w1=w.drew)∧(Instr.next (.pointer (some ⟨it,0,none⟩)) false ty).run P w= .ok (.tuple #[.bool true,p.1,p.2]) (DH w1 it (.mapIter (some b) m (seen++[q]).toArray m)):=by
 have hold:∀x∈(W6 es).toList,x.born<m:=by
  intro x hx
  obtain ⟨q,hq⟩:=List.mem_iff_getElem?.1 hx
  rw [Array.getElem?_toList,RJ] at hq
  cases hp:es[q]? with
  |none=>rw [hp] at hq;cases hq
  |some p=>
   rw [hp] at hq
   simp only [Option.map_some,Option.some.injEq] at hq
   subst hq
   show q<m
   rcases Nat.lt_or_ge q es.length with h|h
   · omega
   · rw [List.getElem?_eq_none h] at hp;cases hp
 simp only [Instr.next,getObj,Sem.run_bind,Sem.run,hit,hb,Result.andThen,next_test_false seen.toArray (W6 es) m m hold (Nat.le_refl _),Bool.false_eq_true,if_false]
 have hleft:(W6 es).filter (fun e=> !seen.toArray.contains e.born)=leftOf (W6 es) seen.toArray:=rfl
 rw [hleft]
 have hmem:∀x∈(leftOf (W6 es) seen.toArray).toList,x.born<m:=fun x hx=>by
  obtain ⟨q,p,h1,_,rfl⟩:=mem_left.1 hx
  rcases Nat.lt_or_ge q es.length with h|h
  · show q<m;omega
  · rw [List.getElem?_eq_none h] at h1;cases h1
 have hml:∀e,e∈(leftOf (W6 es) seen.toArray).toList↔∃q p,es[q]? =some p∧q∉seen∧e={ key:=p.1,val:=p.2,born:=q }:=fun e=>mem_left
 generalize leftOf (W6 es) seen.toArray=L at hmem hml ⊢
 have e1:L.filter (fun x=>decide (x.born<m))=L:=Array.filter_eq_self.2 (fun x hx=>by simpa using hmem x Gs)
 have e2:L.filter (fun x=>decide (x.born≥m))= #[]:=by
  rw [Array.filter_eq_empty_iff]
  intro x hx
  have:=hmem x Gs
  simp
  omega
 simp only [e1,e2,Array.append_empty]
 by_cases h0:L.size=0
 ·
  left
  have hL:L= #[]:=Array.eq_empty_of_size_eq_zero h0
  refine ⟨fun q hq=> ?_,?_⟩
  ·
   rcases Classical.em (q∈seen) with h|h
   · exact h
   ·
    have:=(hml { key:=(es[q]'(by omega)).1,val:=(es[q]'(by omega)).2,born:=q }).2 ⟨q,es[q]'(by omega),List.getElem?_eq_getElem AA,h,rfl⟩
    rw [hL] at this;simp at this
  ·
   subst hL
   simp [choose,Sem.run,Question.forced]
 ·
  right
  have hne:L.isEmpty=false:=by simp [Array.isEmpty,h0]
  simp only [hne,Bool.false_eq_true,if_false,Array.empty_append,Array.size_map]
  have hch:∃(j:Nat) (w1:World),j<L.size∧(w1=w∨w1=w.drew)∧(choose (Question.mapNext L.size)).run P w= .ok j w1:=by
   by_cases hf:L.size≤1
   · exact ⟨0,w,by omega,.inl rfl,by simp [choose,Sem.run,Question.forced,hf]⟩
   ·
    exact ⟨_,w.drew,Nat.mod_lt _ AA,.inr rfl,by
     simp only [choose,Sem.run,Question.forced,decide_eq_true_eq,hf,if_false,Question.cut]
     rfl⟩
  obtain ⟨j,w1,hj,hal,hrun⟩:=hch
  obtain ⟨q,p,hq1,fY,hq3⟩:=(hml L[j]).1 AV
  refine ⟨q,p,hq1,fY,w1,hal,?_⟩
  have hw1:w1.heap=w.heap:=by rcases hal with rfl|rfl<;>rfl
  have Ls:∀(o':Obj),(setObj it o').run P w1= .ok () (DH w1 it o'):=fun o'=>by
   have AE3:w1.heap[it]? =some (.mapIter (some b) m seen.toArray m):=by rw [hw1];exact hit
   simp only [setObj,Sem.run,AE3]
   rfl
  simp only [hrun,Array.getElem?_map,Array.getElem?_eq_getElem hj,Option.map_some,Sem.run_bind,Ls,Result.andThen]
  rw [hq3]
  simp
omit [DecidableEq κ] in
theorem TO.next {d i j it b:Nat} {x:Operand} {es:List (κ×Int)} {seen:List Nat} (hg:o.guard=none) (hd:o.dst=some d) (hn:d<n) (ho:o.op= .next x false) (hx:VL E x (ptr it 0)) (hi:rs[i]? =some (Oe it b es.length seen)) (hj:rs[j]? =some (xY enc b es))
  (k1:(∀q,q<es.length→q∈seen)→TO P n ops r ((d,Dz [bool false])::E) (Hp M0 w0 S rs) Q)
  (k2:∀q p,es[q]? =some p→q∉seen→TO P n ops r ((d,Dz [bool true,is (enc p.1),int p.2])::E) (Hp M0 w0 S (rs.set i (Oe it b es.length (seen++[q])))) Q):TO P n ops (o::r) E (Hp M0 w0 S rs) Q:=
 TO.ff hg fun K M w a hsz hdf he hI hK=>by
  have h1:a.eval x= .pointer (some ⟨it,0,none⟩):=hx.ev (o:=o) (CX he) Au
  obtain ⟨⟨hMi,hit⟩,hbi⟩:=A9.hold hI _ (List.mem_of_getElem? hi)
  obtain ⟨_,hh⟩:=(A9.hold hI _ (List.mem_of_getElem? hj)).1
  have hlt:=(hbi it rfl).1
  rcases VS (P:=P) o.type (es:=RK enc es) (by simp [RK]) hit hh with ⟨h2,h3⟩|⟨q,p,h2,h3,w1,h4,h5⟩
  ·
   refine TO.val (v:= .tuple #[.bool false]) (w':=w) ?_ ?_
   · simp [execOp,ho,h1,h3]
   ·
    refine hK _ _ _ _ (k1 h2) ⟨M,by rw [B9];exact hsz,by rw [put_defers];exact hdf,?_,hI⟩
    intro s p hp
    simp only [List.lookup] at hp
    by_cases hs:s=d
    · subst hs;simp at hp;subst hp;rw [hd,B6 G8];exact ⟨_,rfl,rfl,trivial⟩
    ·
     rw [show (s==d)=false by simpa using hs] at hp
     rw [hd,BZ hs];exact he s p hp
  ·
   have VT:∃p',es[q]? =some p'∧p=(enc p'.1,.int .i64 p'.2):=by
    simp only [RK,List.getElem?_map] at h2
    cases h:es[q]? with
    |none=>rw [h] at h2;cases h2
    |some p'=>rw [h] at h2;simp at h2;exact ⟨p',rfl,h2.symm⟩
   obtain ⟨p',hp',rfl⟩:=VT
   refine TO.val (v:= .tuple #[.bool true,enc p'.1,.int .i64 p'.2]) (w':=DH w1 it (.mapIter (some b) es.length (seen++[q]).toArray es.length)) ?_ ?_
   · simp [execOp,ho,h1,h5]
   ·
    have xZ:Below w.heap.size w w1:=by
     rcases h4 with rfl|rfl
     · exact Below.refl _ _
     · exact (Below.refl _ _).drew
    have hI1:=(Hp M0 w0 S rs).st _ _ _ xZ hI
    obtain ⟨h6,h7⟩:=A9.AE2 (obj:= .mapIter (some b) es.length (seen++[q]).toArray es.length) (r':=Oe it b es.length (seen++[q])) hI1 hi rfl rfl rfl rfl hMi ⟨hMi,sW (Nat.lt_of_lt_of_le hlt xZ.size)⟩
    refine hK _ _ _ _ (k2 q p' hp' h3) ⟨M,by rw [B9];exact hsz,by rw [put_defers];exact hdf,?_,h6⟩
    intro s p hp
    simp only [List.lookup] at hp
    by_cases hs:s=d
    · subst hs;simp at hp;subst hp;rw [hd,B6 G8];exact ⟨_,rfl,rfl,rfl,rfl,trivial⟩
    ·
     rw [show (s==d)=false by simpa using hs] at hp
     rw [hd,BZ hs]
     exact p.st _ _ _ _ _ ((Ext.below xZ).trans h7) (he s p hp)
omit [DecidableEq κ] in
theorem TO.entry {d i j it b q:Nat} {x:Operand} {es:List (κ×Int)} {seen:List Nat} {p:κ×Int} (hg:o.guard=none) (hd:o.dst=some d) (hn:d<n) (ho:o.op= .entry x) (hx:VL E x (ptr it 0)) (hi:rs[i]? =some (Oe it b es.length (seen++[q]))) (hj:rs[j]? =some (xY enc b es)) (hq:es[q]? =some p)
  (k:TO P n ops r ((d,Dz [is (enc p.1),int p.2])::E) (Hp M0 w0 S rs) Q):TO P n ops (o::r) E (Hp M0 w0 S rs) Q:=
 TO.ff hg fun K M w a hsz hdf he hI hK=>by
  have h1:a.eval x= .pointer (some ⟨it,0,none⟩):=hx.ev (o:=o) (CX he) Au
  obtain ⟨⟨_,hit⟩,_⟩:=A9.hold hI _ (List.mem_of_getElem? hi)
  obtain ⟨_,hh⟩:=(A9.hold hI _ (List.mem_of_getElem? hj)).1
  have hat:(W6 (RK enc es))[q]? =some { key:=enc p.1,val:= .int .i64 p.2,born:=q }:=by rw [RJ];simp [RK,hq]
  have hnd:((W6 (RK enc es)).toList.map (·.born)).Nodup:=by
   have:(W6 (RK enc es)).toList.map (·.born)=List.range (RK enc es).length:=by
    apply List.ext_getElem?
    intro k
    rw [List.getElem?_map,Array.getElem?_toList,RJ]
    by_cases hk:k<(RK enc es).length
    · rw [List.getElem?_range hk,List.getElem?_eq_getElem hk];rfl
    · rw [List.getElem?_eq_none (Nat.le_of_not_lt hk),List.getElem?_eq_none (by simp at hk ⊢;omega)];rfl
   rw [this];exact List.nodup_range
  have hfind:(W6 (RK enc es)).find? (fun e=>e.born==q)=some { key:=enc p.1,val:= .int .i64 p.2,born:=q }:=by
   rw [←Array.find?_toList]
   exact find_born { key:=enc p.1,val:= .int .i64 p.2,born:=q } _ hnd (List.mem_iff_getElem?.2 ⟨q,by rw [Array.getElem?_toList];exact hat⟩)
  refine TO.val (v:= .tuple #[enc p.1,.int .i64 p.2]) (w':=w) ?_ ?_
  ·
   have:(Instr.entry (.pointer (some ⟨it,0,none⟩))).run P w= .ok (.tuple #[enc p.1,.int .i64 p.2]) w:=by
    have hb:(seen++[q]).toArray.back? =some q:=by simp
    simp only [Instr.entry,getObj,Sem.run_bind,Sem.run,hit,hh,Result.andThen,hb,bne_self_eq_false,Bool.false_eq_true,if_false,hfind]
    rfl
   simp [execOp,ho,h1,this]
  ·
   refine hK _ _ _ _ k ⟨M,by rw [B9];exact hsz,by rw [put_defers];exact hdf,?_,hI⟩
   intro s p hp
   simp only [List.lookup] at hp
   by_cases hs:s=d
   · subst hs;simp at hp;subst hp;rw [hd,B6 G8];exact ⟨_,rfl,rfl,rfl,trivial⟩
   ·
    rw [show (s==d)=false by simpa using hs] at hp
    rw [hd,BZ hs];exact he s p hp
end
section
variable {P:Program} {L:Lg P}
end
section
variable {P:Program} {L:Lg P} {n:Fm} {fz:Nat} {E:Env} {M0:Av} {w0:World} {S:Nat→Prop} {rs:List At} {o:Oper}
theorem O5 (w:World) (A:Option Addr) (t ty e:TypeId) (i:TypeInfo) (z:Value) (ht:P.underlying t=some (.slice e)) (hi:P.info? e=some i) (hz:i.zero=some z)
  (a:Addr) (n c:Nat) (news:List Value) (hl:news.length=n*i.size) (hnews:∀j v,news[j]? =some v→w.cell? (a.add j)=some v)
  (h0:0<n) (h63:(n:Int)≤9223372036854775807) (h48:n*i.bytes≤281474976710656):
  (Builtin.append_ #[t, t] ty #[.slice A 0 0, .slice (some a) n c]).run P w =
   .ok (.slice (some ⟨w.heap.size,0,none⟩) n (grownCap w n 0 e)) (w.drew.alloc (.cells (news.toArray++Builtin.zeroCells z.cells (grownCap w n 0 e-n)) e)):=by
 cases A with
 |none=>exact run_append_nil (w:=w) t ty e i z ht hi hz a n c news hl hnews h0 h63 h48
 |some b=>
  have:=run_append_grow (w:=w) t ty e i z ht hi hz b 0 0 [] AV AV a n c news hl hnews AA (by simpa using h63) (by rw [Nat.zero_add,nextslicecap_zero h0];exact h48)
  simpa using this
theorem W7 {M:Av} {w:World} {t ty e:TypeId} {sz bytes:Nat} {zs:List Value} {rows:List (List Pr)} {u:Value} {j:Nat} (A:Option Addr) (ht:P.underlying t=some (.slice e)) (hz:BB P e=some sz) (hby:Bz P e=some bytes) (FJ:Ba P e=some zs) (hzl:zs.length=sz) (hone:zs.all (·.oneCell')=true) (hsz:0<sz)
  (h:A9 M0 w0 S rs M w) (hj:rs[j]? =some Bu) (hu:(slice sz rows).h M w u) (hpos:0<rows.length) (G9:rows.length≤maxLen) (hfit:rows.length*bytes≤140737488355328):
  ∃v' w' M',(Builtin.append_ #[t,t] ty #[.slice A 0 0,u]).run P w= .ok v' w'∧(lens rows.length).h M' w' v'∧Ext M w M' w'∧A9 M0 w0 S (rs.set j (Fh e sz rows v')) M' w':=by
 unfold BB at hz
 unfold Bz at hby
 unfold Ba at FJ
 cases hi:P.info? e with
 |none=>rw [hi] at hz;cases hz
 |some i=>
  rw [hi] at hz hby FJ
  simp only [Option.map_some,Option.some.injEq,Option.map_eq_some_iff] at hz hby FJ
  obtain ⟨z,jV,FJ⟩:=FJ
  have hzc:z.cells.size=sz:=by rw [←hzl,←FJ];simp
  obtain ⟨A',c',rfl,hmc,Y6,hA',HE⟩:=hu
  have U2:(slice sz rows).h M w (.slice A' rows.length c'):=⟨A',c',rfl,hmc,Y6,hA',HE⟩
  obtain ⟨TP,rfl⟩:∃TP,A'=some TP:=by
   obtain ⟨_,b,hb,_⟩:=HE 0 _ (List.getElem?_eq_getElem hpos)
   exact ⟨b,hb⟩
  obtain ⟨news,hfl,hcell⟩:=GC hsz U2
  have hrun:=O5 (P:=P) w A t ty e i z ht hi jV TP rows.length c' news (by rw [hz];exact hfl.1) (fun k u hk=>(hcell k u hk).1) hpos Uv (by rw [hby];omega)
  generalize hcap:grownCap w rows.length 0 e=cap at hrun
  have hge:rows.length≤cap:=by rw [←hcap];exact grownCap_ge _ _ _ _
  have hle:cap≤maxLen:=by rw [←hcap];exact grownCap_le_maxLen _ _ _ _ G9
  generalize Sn:Builtin.zeroCells z.cells (cap-rows.length)=zc at hrun
  have hzs:zc.size=(cap-rows.length)*sz:=by rw [←Sn,size_zeroCells,hzc]
  have hzo:∀c∈zc.toList,c.oneCell'=true:=by rw [←Sn];exact H_ FJ hone
  have hb:Below w.heap.size w (w.drew.alloc (.cells (news.toArray++zc) e)):=((Below.refl _ _).drew).alloc (Nat.le_refl _) _
  have h2:=Ext.below (M:=M) hb
  have E4:Ext M w (fun b o=>M b o∨b=w.heap.size) (w.drew.alloc (.cells (news.toArray++zc) e)):=by
   refine ⟨h2.size,fun a v hc hm=>⟨fun hx=> ?_,(h2.keep a v hc hm).2⟩,fun b o ho hp hm=>⟨fun hx=> ?_,(h2.obj b o ho hp hm).2⟩⟩
   ·
    rcases hx with hx|hx
    · exact Cb
    · exact FC
   ·
    rcases hx with hx|hx
    · exact Cb
    · exact FD
  have hs1:(w.drew.alloc (.cells (news.toArray++zc) e)).heap.size=w.heap.size+1:=by simp
  refine ⟨_,_,fun b o=>M b o∨b=w.heap.size,hrun,⟨_,_,rfl⟩,E4,?_⟩
  refine h.replace hj E4 hb.os hb.tape hb.output (fun k hk _=>hb.block k hk) rfl (fun b o hm _=> .inl hm) (fun b o hx=> ?_) ?_ rfl (fun b hbk=> ?_)
  ·
   rcases hx with hx|hx
   · exact Me
   · omega
  ·
   refine ⟨w.heap.size,cap,zc.toList,rfl,hge,hle,by simpa using hzs,fun o=> .inr rfl,news++zc.toList,?_,?_,?_⟩
   ·
    have hh:(w.drew.alloc (.cells (news.toArray++zc) e)).heap[w.heap.size]? =some (.cells (news.toArray++zc) e (0,0)):=heap_alloc_new w.drew _
    rw [hh];simp
   · exact ((hfl.st E4).hl hsz).app (J1 _ _ _)
   ·
    intro c hc
    rcases List.mem_append.1 hc with hc|hc
    · exact hfl.2.1 c hc
    · exact hzo c hc
  ·
   have Ex:some w.heap.size=some b:=hbk
   injection Ex with e1
   subst e1
   exact ⟨by rw [hs1];omega,.inr (Nat.le_refl _)⟩
theorem JA {t e:TypeId} {x y:Operand} {sz':Nat} {sz bytes d:Nat} {zs:List Value} {rows:List (List Pr)} {j:Nat} (hg:o.guard=none) (hd:o.dst=some d) (hn:d<n) (ho:o.op= .call { callee:= .builtin .append,args:= #[x,y],argTypes:= #[t,t] })
  (ht:P.underlying t=some (.slice e)) (hz:BB P e=some sz) (hby:Bz P e=some bytes) (FJ:Ba P e=some zs) (hzl:zs.length=sz) (hone:zs.all (·.oneCell')=true) (hsz:0<sz)
  (hx:VL E x (full sz' [])) (hy:VL E y (slice sz rows)) (hpos:0<rows.length) (G9:rows.length≤maxLen) (hfit:rows.length*bytes≤140737488355328):DI P M0 w0 S n j (SR.c Bu) ⟨d,Fh e sz rows⟩ o E (lens rows.length):=by
 refine ⟨hg,fun M w a rs Yz he hI hj=> ?_⟩
 have h2:=hy.ev he Dj
 obtain ⟨_,A,h1⟩:=hx.ev he Dj
 simp only [List.length_nil] at h1
 obtain ⟨v',w',M',hrun,h3,h4,h5⟩:=W7 A (ty:=o.type) ht hz hby FJ hzl hone hsz hI hj h2 hpos G9 hfit
 have E6:(execOp a.eval o).run P w= .ok (.value v') w':=by simp [execOp,ho,resolve,invoke,builtin,h1,hrun]
 rw [E6]
 refine ⟨M',h3,h4,?_⟩
 have:(SR.at_ (a.put o.dst v') ⟨d,Fh e sz rows⟩)=Fh e sz rows v':=by unfold SR.at_ Slot.val;dsimp only;rw [hd,B6 Is]
 rw [this];exact h5
theorem Po {I:Ck} {t e:TypeId} {x:Operand} {A:Option Addr} {m cap:Nat} (ho:o.op= .call { callee:= .builtin .len,args:= #[x],argTypes:= #[t] }) (ht:P.underlying t=some (.slice e)) (hx:VL E x (is (.slice A m cap))):Ag P I o E (int m):=
 Ag.same fun M w a he _=>by
  have h1:a.eval x=_:=hx.ev he Dj
  exact ⟨.int .i64 m,by simp [execOp,ho,resolve,invoke,builtin,Builtin.len_,h1,run_underlying ht,goInt],rfl⟩
theorem W8 {I:Ck} {t e:TypeId} {x y:Operand} {k:IntKind} {h:Int} {sz b m cap:Nat} (ho:o.op= .slice t x none (some y) none) (ht:P.underlying t=some (.slice e)) (hz:BB P e=some sz) (hx:VL E x (is (.slice (some ⟨b,0,none⟩) m cap))) (hy:VL E y (is (.int k h))) (h0:0≤h) (hl:h≤m) (hc:m≤cap) (h1m:0<cap):
  Ag P I o E (is (.slice (some ⟨b,0,none⟩) h.toNat cap)):=
 Ag.same fun M w a he _=>by
  have h1:a.eval x=_:=hx.ev he Au
  have h3:a.eval y=_:=hy.ev he Au
  have hb:h≤(cap:Int):=by omega
  refine ⟨_,?_,rfl⟩
  simp [execOp,ho,h1,h3,Instr.sliceAt,Instr.slice,run_underlying ht,Instr.sliceBounds,Instr.sliceBound,asIntOf,h0,hb,C0 hz]
  intro _;rfl
theorem lN {β:Type} {f:β→List Pr} {l:List β} {qs:List Pr} {sz:Nat} (hf:∀x,(f x).length=sz) {i:Nat} {x:β} (h:l[i]? =some x):((((l.map f).flatten++qs).drop (i*sz)).take sz)=f x:=by
 have hl:∀r∈l.map f,r.length=sz:=fun r hr=>by obtain ⟨y,_,rfl⟩:=List.mem_map.1 hr;exact hf y
 have hi:i<l.length:=by rcases Nat.lt_or_ge i l.length with h'|h';exact h';rw [List.getElem?_eq_none h'] at h;cases h
 have hfl:=Dr hl
 rw [List.length_map] at hfl
 have hle:(i+1)*sz≤l.length*sz:=Nat.mul_le_mul_right sz hi
 rw [Nat.add_mul,Nat.one_mul] at hle
 apply List.ext_getElem?
 intro k
 rw [List.getElem?_take]
 split
 ·
  rename_i hk
  rw [List.getElem?_drop,List.getElem?_append_left (by rw [hfl];omega),I_ hl (by rw [List.getElem?_map,h];rfl) hk]
 ·
  rename_i hk
  rw [List.getElem?_eq_none (by rw [hf];omega)]
theorem Tf {β:Type} {f:β→List Pr} {sz:Nat} (hf:∀x,(f x).length=sz):∀{l:List β} {qs:List Pr} {i:Nat} {x:β},i<l.length→((l.map f).flatten++qs).take (i*sz)++f x++((l.map f).flatten++qs).drop (i*sz+sz)=((l.set i x).map f).flatten++qs
 |[],_,_,_,h=>by simp at h
 |a::l,qs,0,x,_=>by
  simp only [List.map_cons,List.flatten_cons,Nat.zero_mul,List.take_zero,List.nil_append,Nat.zero_add,List.set_cons_zero]
  rw [←hf a,List.append_assoc,List.drop_left,List.append_assoc]
 |a::l,qs,i+1,x,h=>by
  have ih:=Tf hf (l:=l) (qs:=qs) (i:=i) (x:=x) D3
  simp only [List.map_cons,List.flatten_cons,List.set_cons_succ]
  have e1:(i+1)*sz=(f a).length+i*sz:=by rw [hf a,Nat.add_mul];omega
  rw [List.append_assoc,List.append_assoc,e1,List.take_append,List.take_of_length_le AA,show (f a).length+i*sz-(f a).length=i*sz by omega,show (f a).length+i*sz+sz=(f a).length+(i*sz+sz) by omega,List.drop_append,List.drop_of_length_le AA,show (f a).length+(i*sz+sz)-(f a).length=i*sz+sz by omega,List.nil_append,List.append_assoc (f a) _ qs,←ih]
  simp only [List.append_assoc]
theorem Kt {β:Type} {f:β→List Pr} {l:List β} {qs:List Pr} {sz:Nat} (hf:∀x,(f x).length=sz):((l.map f).flatten++qs).length=l.length*sz+qs.length:=by
 rw [List.length_append,Dr (sz:=sz) (fun r hr=>by obtain ⟨y,_,rfl⟩:=List.mem_map.1 hr;exact hf y),List.length_map]
theorem BD {β:Type} {f:β→List Pr} {l:List β} {sz:Nat} (hf:∀x,(f x).length=sz):∀r∈l.map f,r.length=sz:=fun r hr=>by obtain ⟨y,_,rfl⟩:=List.mem_map.1 hr;exact hf y
theorem St.gB {b cap sz:Nat} {e:TypeId} {rows:List (List Pr)} {qs:List Pr} (j d:Nat) {p:Pr} (hj:rs[j]? =some (AF true b e (rows.flatten++qs))) (hd:E.lookup d=some p) (hp:Pr.le p (is (.slice (some ⟨b,0,none⟩) rows.length cap)))
  (hl:∀r∈rows,r.length=sz) (hc:rows.length≤cap) (hm:cap≤maxLen) (hq:qs.length=(cap-rows.length)*sz)
  {a:Act} {w:World} (h:St n E (Hp M0 w0 S rs) a w):St n ((d,Ad (.slice (some ⟨b,0,none⟩) rows.length cap) (slice sz rows))::E) (Hp M0 w0 S (rs.set j (Aw e sz (.slice (some ⟨b,0,none⟩) rows.length cap)))) a w:=by
 obtain ⟨M,h1,h2,h3,h4⟩:=h
 obtain ⟨M',h5,h6,h7⟩:=A9.frz h4 hj hl hc hm hq
 refine ⟨M',h1,h2,fun s q hs=> ?_,h6⟩
 simp only [List.lookup] at hs
 split at hs
 ·
  rename_i e1
  have:s=d:=by simpa using e1
  subst this
  simp only [Option.some.injEq] at hs
  subst hs
  have h8:=hp _ _ _ (h3 _ _ hd)
  exact ⟨h8,by rw [show a.tmps.getD s undef=_ from h8];exact h7⟩
 · exact q.st _ _ _ _ _ h5 (h3 s q hs)
theorem Tr.gB {Q:Exit→Act→World→Prop} {c:Code} {b cap sz:Nat} {e:TypeId} (rows:List (List Pr)) {qs:List Pr} (j d:Nat) {p:Pr} (hj:rs[j]? =some (AF true b e (rows.flatten++qs))) (hd:E.lookup d=some p) (hp:Pr.le p (is (.slice (some ⟨b,0,none⟩) rows.length cap)))
  (hl:∀r∈rows,r.length=sz) (hc:rows.length≤cap) (hm:cap≤maxLen) (hq:qs.length=(cap-rows.length)*sz)
  (k:Tr L n ((d,Ad (.slice (some ⟨b,0,none⟩) rows.length cap) (slice sz rows))::E) (Hp M0 w0 S (rs.set j (Aw e sz (.slice (some ⟨b,0,none⟩) rows.length cap)))) c Q):Tr L n E (Hp M0 w0 S rs) c Q:=
 Tr.conv (fun _ _ hs=>hs.gB j d hj hd hp hl hc hm hq) k
theorem Fin.gB {Q:Exit→Act→World→Prop} {x:Exit} {b cap sz:Nat} {e:TypeId} (rows:List (List Pr)) {qs:List Pr} (j d:Nat) {p:Pr} (hj:rs[j]? =some (AF true b e (rows.flatten++qs))) (hd:E.lookup d=some p) (hp:Pr.le p (is (.slice (some ⟨b,0,none⟩) rows.length cap)))
  (hl:∀r∈rows,r.length=sz) (hc:rows.length≤cap) (hm:cap≤maxLen) (hq:qs.length=(cap-rows.length)*sz)
  (k:Fin n ((d,Ad (.slice (some ⟨b,0,none⟩) rows.length cap) (slice sz rows))::E) (Hp M0 w0 S (rs.set j (Aw e sz (.slice (some ⟨b,0,none⟩) rows.length cap)))) Q x):Fin n E (Hp M0 w0 S rs) Q x:=
 Fin.conv (fun _ _ hs=>hs.gB j d hj hd hp hl hc hm hq) k
end
section
variable {P:Program} {L:Lg P} {n:Fm} {fz:Nat} {E:Env} {M0:Av} {w0:World} {S:Nat→Prop} {rs:List At} {o:Oper} {g:Func} {M1:Av} {w1:World}
theorem lO {β:Type} {f:β→List Pr} {l:List β} {qs:List Pr} (hf:∀x,(f x).length=1) {i:Int} {x:β} {p:Pr} (h:l[i.toNat]? =some x) (hp:f x=[p]):((l.map f).flatten++qs)[0+i.toNat*1]? =some p:=by
 have hl:∀r∈l.map f,r.length=1:=BD hf
 have hi:i.toNat<l.length:=by rcases Nat.lt_or_ge i.toNat l.length with h'|h';exact h';rw [List.getElem?_eq_none h'] at h;cases h
 have hfl:=Dr hl
 rw [List.length_map] at hfl
 rw [Nat.zero_add,List.getElem?_append_left (by rw [hfl];omega),show i.toNat*1=i.toNat*1+0 by omega,I_ hl (by rw [List.getElem?_map,h];rfl) AA,hp];rfl
def El (T:TypeId) (ps:List Pr) (v:Value):At:=match v with| .pointer (some a)=>AF true a.block T ps|_=>Bu
theorem CC {d j:Nat} {T:TypeId} {zs:List Value} (hg:o.guard=none) (hd:o.dst=some d) (hn:d<n) (ho:o.op= .alloc T) (hz:Ba P T=some zs) (h1':zs.all (·.oneCell')=true):
  DI P M0 w0 S n j (SR.c Bu) ⟨d,El T (zs.map is)⟩ o E (Cp.ex fun b=>ptr b 0):=by
 refine ⟨hg,fun M w a rs Yz he hI hj=> ?_⟩
 have h1:∀c∈zs,c.oneCell'=true:=fun c hc=>List.all_eq_true.1 h1' c hc
 obtain ⟨z,Ef,Iv⟩:=Wd hz w
 have hrun:(execOp a.eval o).run P w= .ok (.value (.pointer (some ⟨w.heap.size,0,none⟩))) (w.alloc (.cells zs.toArray T)):=by simp [execOp,ho,Instr.alloc,Ef,newVar,newRow,←Iv]
 rw [hrun]
 have hb:Below w.heap.size w (w.alloc (.cells zs.toArray T)):=(Below.refl _ _).alloc (Nat.le_refl _) _
 have h2:=Ext.below (M:=M) hb
 have E4:Ext M w (fun b o=>M b o∨b=w.heap.size) (w.alloc (.cells zs.toArray T)):=by
  refine ⟨h2.size,fun a v hc hm=>⟨fun hx=> ?_,(h2.keep a v hc hm).2⟩,fun b o ho hp hm=>⟨fun hx=> ?_,(h2.obj b o ho hp hm).2⟩⟩
  ·
   rcases hx with hx|hx
   · exact Cb
   · exact FC
  ·
   rcases hx with hx|hx
   · exact Cb
   · exact FD
 have hs1:(w.alloc (.cells zs.toArray T)).heap.size=w.heap.size+1:=by simp
 have hat:(SR.at_ (a.put o.dst (.pointer (some ⟨w.heap.size,0,none⟩))) ⟨d,El T (zs.map is)⟩)=AF true w.heap.size T (zs.map is):=by unfold SR.at_ Slot.val;dsimp only;rw [hd,B6 Is];rfl
 refine ⟨fun b o=>M b o∨b=w.heap.size,⟨_,rfl⟩,E4,?_⟩
 rw [hat]
 refine hI.replace hj E4 hb.os hb.tape hb.output (fun k hk _=>hb.block k hk) rfl (fun b o hm _=> .inl hm) (fun b o hx=> ?_) ?_ rfl (fun b hbk=> ?_)
 ·
  rcases hx with hx|hx
  · have:=hI.bd _ _ hx;omega
  · omega
 · refine ⟨fun o=> .inr rfl,zs,heap_alloc_new w _,J1 _ _ _,h1⟩
 ·
  have Ex:some w.heap.size=some b:=hbk
  injection Ex with e1
  subst e1
  exact ⟨by rw [hs1];omega,.inr (Nat.le_refl _)⟩
theorem CZ {t:TypeId} {s:Tmp} {y:Operand} {j m:Nat} {T:TypeId} {ps qs:List Pr} (hg:o.guard=none) (hd:o.dst=none) (ho:o.op= .store t (.tmp s) y) (hx:E.lookup s=some (Cp.ex fun b=>ptr b 0)) (hy:VL E y (Cv qs))
  (hz:BB P t=some m) (hm:qs.length=m) (hl:ps.length=m):DI P M0 w0 S n j ⟨s,El T ps⟩ ⟨s,El T qs⟩ o E any:=by
 refine ⟨hg,fun M w a rs hsz he hI hj=> ?_⟩
 have hxv:VL E (.tmp s) (Cp.ex fun b=>ptr b 0):=⟨_,hx,Pr.le_refl _⟩
 obtain ⟨b,h1'⟩:=hxv.ev he (show (Operand.tmp s)∈o.op.operands.toList by simp [ho,Op.operands])
 have h1:a.eval (.tmp s)= .pointer (some ⟨b,0,none⟩):=h1'
 have h1t:a.tmps.getD s undef= .pointer (some ⟨b,0,none⟩):=h1
 have hj':rs[j]? =some (AF true b T ps):=by
  rw [hj];show some (El T ps (a.tmps.getD s undef))=_;rw [h1t];rfl
 obtain ⟨h2,h3⟩:=hy.ev he (show y∈o.op.operands.toList by simp [ho,Op.operands])
 obtain ⟨⟨_,cs,h4,h5,h6⟩,_⟩:=hI.hold _ (List.mem_of_getElem? hj')
 have h5l:=h5.length
 have h2l:=h2.length
 have hcells:(a.eval y).cells.size=m:=by rw [←hm,←h2l];simp
 have hrun:(storeCells ⟨b,0,none⟩ (a.eval y).cells.toList 0).run P w= .ok () (w.setRow b (cs.take 0++(a.eval y).cells.toList++cs.drop (0+m)).toArray):=by
  have:=run_storeCells_at (P:=P) b 0 T (a.eval y).cells.toList 0 cs.toArray w h4 B8 h3
  simpa [hcells] using this
 have ABO:cs.drop (0+m)=[]:=List.drop_eq_nil_of_le AA
 rw [ABO,List.take_zero,List.nil_append,List.append_nil] at hrun
 have E6:(execOp a.eval o).run P w= .ok .skip (w.setRow b (a.eval y).cells.toList.toArray):=by
  simp only [execOp,ho,h1,Instr.storeAt,Instr.sureAddr,storeVar]
  simp [C0 hz,hcells,hrun]
 rw [E6]
 obtain ⟨h7,h8⟩:=A9.write (qs:=qs) (cs:=(a.eval y).cells.toList) hI hj' h2 h3
 refine ⟨M,trivial,h8,?_⟩
 have hat:(SR.at_ (a.put o.dst undef) ⟨s,El T qs⟩)=AF true b T qs:=by
  rw [hd];show El T qs (a.tmps.getD s undef)=_;rw [h1t];rfl
 rw [hat];exact h7
theorem Fin.LX {Q:Exit→Act→World→Prop} {x:Exit} (s j:Nat) {v:Value} {f:Value→At} (g:Nat→At) (hs:E.lookup s=some (Ad v (Cp.ex fun b=>ptr b 0))) (hi:rs[j]? =some (f v)) (hf:∀b,f (.pointer (some ⟨b,0,none⟩))=g b)
  (k:∀b,Fin n ((s,ptr b 0)::E) (Hp M0 w0 S (rs.set j (g b))) Q x):Fin n E (Hp M0 w0 S rs) Q x:=by
 intro a w hst
 obtain ⟨M,h1,h2,he,h4⟩:=hst
 obtain ⟨h5,b,h6⟩:=he s _ hs
 have hv:v= .pointer (some ⟨b,0,none⟩):=by rw [←h5];exact h6
 have hj:rs.set j (g b)=rs:=by
  have hjl:j<rs.length:=by rcases Nat.lt_or_ge j rs.length with h|h;exact h;rw [List.getElem?_eq_none h] at hi;cases hi
  rw [←hf b,←hv]
  rw [List.getElem?_eq_getElem hjl] at hi
  simp at hi
  rw [←hi,List.set_getElem_self]
 refine k b a w ⟨M,h1,h2,?_,by rw [hj];exact h4⟩
 intro t q hq
 simp only [List.lookup] at hq
 by_cases ht:t=s
 · exact Kj
 · exact Nf
end
section
variable {P:Program} {L:Lg P} {n:Fm} {fz:Nat} {E:Env} {M0:Av} {w0:World} {S:Nat→Prop} {rs:List At} {o:Oper}
def Bn (e:TypeId) (sz:Nat) (rows:List (List Pr)) (v:Value):At where
 blk:=match v with| .slice (some a) _ _=>some a.block|_=>none
 new:=true
 h M w:=(rows=[]∧v= .slice none 0 0)∨(Fh e sz rows v).h M w
 st M w M' w' he hk h:=h.imp id fun h=>(Fh e sz rows v).st M w M' w' he hk h
theorem Tr.L2 {Q:Exit→Act→World→Prop} {c:Code} (e:TypeId) (sz:Nat) (k:Tr L n E (Hp M0 w0 S (Bn e sz [] (.slice none 0 0)::rs)) c Q):Tr L n E (Hp M0 w0 S rs) c Q:=
 Tr.conv (fun _ _ ⟨M,h1,h2,h3,h4⟩=>⟨M,h1,h2,h3,A9.Ji h4 (r:=Bn e sz [] (.slice none 0 0)) rfl (Or.inl ⟨rfl,rfl⟩)⟩) k
theorem cq {M:Av} {w:World} {t ty e:TypeId} {sz bytes:Nat} {zs:List Value} {rows rows':List (List Pr)} {v u:Value} {j:Nat} (ht:P.underlying t=some (.slice e)) (hz:BB P e=some sz) (hby:Bz P e=some bytes) (FJ:Ba P e=some zs) (hzl:zs.length=sz) (hone:zs.all (·.oneCell')=true) (hsz:0<sz)
  (h:A9 M0 w0 S rs M w) (hj:rs[j]? =some (Bn e sz rows v)) (hl:∀r∈rows,r.length=sz) (hu:(slice sz rows').h M w u) (hpos:0<rows'.length) (G9:rows.length+rows'.length≤maxLen) (hfit:(rows.length+rows'.length)*bytes≤140737488355328):
  ∃v' w' M',(Builtin.append_ #[t,t] ty #[v,u]).run P w= .ok v' w'∧(lens (rows.length+rows'.length)).h M' w' v'∧Ext M w M' w'∧A9 M0 w0 S (rs.set j (Bn e sz (rows++rows') v')) M' w':=by
 have hjl:j<rs.length:=by rcases Nat.lt_or_ge j rs.length with h|h;exact h;rw [List.getElem?_eq_none h] at hj;cases hj
 rcases (h.hold _ (List.mem_of_getElem? hj)).1 with ⟨rfl,rfl⟩|xd
 ·
  have h1:=h.C4 (r':=Bu) hj rfl rfl trivial
  have hj1:(rs.set j Bu)[j]? =some Bu:=List.getElem?_set_self hjl
  obtain ⟨v',w',M',hrun,h2,h3,h4⟩:=sS (ty:=ty) ht hz hby FJ hzl hone hsz h1 hj1 hu hpos Pg Pf
  rw [List.set_set] at h4
  have h5:=h4.C4 (r':=Bn e sz ([]++rows') v') (List.getElem?_set_self hjl) rfl rfl (.inr (h4.hold _ (List.mem_of_getElem? (List.getElem?_set_self hjl))).1)
  rw [List.set_set] at h5
  exact ⟨v',w',M',hrun,by simpa using h2,h3,h5⟩
 ·
  obtain ⟨b,cap,spare,rfl,hnc,hcm,hsp,lP⟩:=xd
  have hC:=h.C4 (r':=AF true b e (rows.flatten++spare.map is)) hj rfl rfl lP
  have hjC:(rs.set j (AF true b e (rows.flatten++spare.map is)))[j]? =some (AF true b e (rows.flatten++spare.map is)):=List.getElem?_set_self hjl
  obtain ⟨⟨hMb,cs,vk,hcs,lQ⟩,hbb⟩:=hC.hold _ (List.mem_of_getElem? hjC)
  have hfl:=Dr hl
  have cM:=hcs.length
  rw [List.length_append,hfl,List.length_map,hsp,←Nat.add_mul,show rows.length+(cap-rows.length)=cap by omega] at cM
  unfold BB at hz
  unfold Bz at hby
  unfold Ba at FJ
  cases hi:P.info? e with
  |none=>rw [hi] at hz;cases hz
  |some i=>
   rw [hi] at hz hby FJ
   simp only [Option.map_some,Option.some.injEq,Option.map_eq_some_iff] at hz hby FJ
   obtain ⟨z,jV,FJ⟩:=FJ
   have hzc:z.cells.size=sz:=by rw [←hzl,←FJ];simp
   obtain ⟨A',c',rfl,hmc,Y6,hA',HE⟩:=hu
   have U2:(slice sz rows').h M w (.slice A' rows'.length c'):=⟨A',c',rfl,hmc,Y6,hA',HE⟩
   obtain ⟨TP,rfl⟩:∃TP,A'=some TP:=by
    obtain ⟨_,b,hb,_⟩:=HE 0 _ (List.getElem?_eq_getElem hpos)
    exact ⟨b,hb⟩
   obtain ⟨news,Tg,hcell⟩:=GC hsz U2
   have ZM:=Tg.1
   have hnews:=Tg.hl hsz
   have hT:HL M w rows.flatten (cs.take (rows.length*sz)):=by
    have:=hcs.take (rows.length*sz)
    rwa [←hfl,List.take_left,hfl] at this
   have hne:(.slice (some ⟨b,0,none⟩) (rows++rows').length cap:Value)= .slice (some ⟨b,0,none⟩) (rows.length+rows'.length) cap:=by rw [List.length_append]
   by_cases hroom:rows.length+rows'.length≤cap
   ·
    have hle:(rows.length+rows'.length)*sz≤cap*sz:=Nat.mul_le_mul_right sz hroom
    rw [Nat.add_mul] at hle
    have hrun:=run_append_room (P:=P) (w:=w) t ty e i ht hi b rows.length cap cs.toArray vk TP rows'.length c' news (by rw [hz];exact ZM) (fun k u hk=>(hcell k u hk).1) Tg.2.1 hroom (by rw [hz,ZM];simp;omega)
    rw [hz,ZM] at hrun
    have hD:HL M w ((spare.drop (rows'.length*sz)).map is) (cs.drop (rows.length*sz+rows'.length*sz)):=by
     have:=hcs.drop (rows.length*sz+rows'.length*sz)
     have e1:(rows.flatten++spare.map is).drop (rows.length*sz+rows'.length*sz)=(spare.drop (rows'.length*sz)).map is:=by rw [←hfl,←List.drop_drop,List.drop_left,List.map_drop]
     rwa [e1] at this
    obtain ⟨hW,hX⟩:=A9.write (qs:=rows.flatten++rows'.flatten++(spare.drop (rows'.length*sz)).map is) (cs:=cs.take (rows.length*sz)++news++cs.drop (rows.length*sz+rows'.length*sz)) hC hjC ((hT.app hnews).app hD) (fun c hc=>by
     simp only [List.mem_append] at hc
     rcases hc with (hc|hc)|hc
     · exact lQ c (List.mem_of_mem_take hc)
     · exact Tg.2.1 c hc
     · exact lQ c (List.mem_of_mem_drop hc))
    rw [List.set_set] at hW
    refine ⟨_,_,M,hrun,⟨_,_,rfl⟩,hX,?_⟩
    have hW2 := hW.C4 (r' := Bn e sz (rows ++ rows') (.slice (some ⟨b, 0, none⟩) (rows.length + rows'.length) cap)) (List.getElem?_set_self hjl) rfl rfl (.inr ⟨b, cap, spare.drop (rows'.length * sz), hne.symm, by rw [List.length_append]; exact hroom, hcm, by
     rw [List.length_drop,hsp,List.length_append,←Nat.sub_mul];congr 1;omega,by
     rw [List.flatten_append];exact (hW.hold _ (List.mem_of_getElem? (List.getElem?_set_self hjl))).1⟩)
    rw [List.set_set] at hW2
    exact hW2
   ·
    have hg:cap<rows.length+rows'.length:=by omega
    have holds:∀k u,(cs.take (rows.length*sz))[k]? =some u→w.cell? ((⟨b,0,none⟩:Addr).add k)=some u:=by
     intro k u hk
     have hk2:cs[k]? =some u:=by
      rw [List.getElem?_take] at hk
      split at hk
      · exact hk
      · cases hk
     rw [Ga]
     simp [World.cell?,vk,hk2]
    have hto:(cs.take (rows.length*sz)).length=rows.length*sz:=by rw [List.length_take,cM];exact Nat.min_eq_left (Nat.mul_le_mul_right sz hnc)
    have hrun:=run_append_grow (P:=P) (w:=w) t ty e i z ht hi jV ⟨b,0,none⟩ rows.length cap (cs.take (rows.length*sz)) (by rw [hz];exact hto) holds TP rows'.length c' news (by rw [hz];exact ZM) (fun k u hk=>(hcell k u hk).1) hg Uv (by rw [hby];exact growslice_fits hg hfit)
    generalize hcap:grownCap w (rows.length+rows'.length) cap e=cap' at hrun
    have hge:rows.length+rows'.length≤cap':=by rw [←hcap];exact grownCap_ge _ _ _ _
    have hle:cap'≤maxLen:=by rw [←hcap];exact grownCap_le_maxLen _ _ _ _ G9
    generalize Sn:Builtin.zeroCells z.cells (cap'-(rows.length+rows'.length))=zc at hrun
    have hzs:zc.size=(cap'-(rows.length+rows'.length))*sz:=by rw [←Sn,size_zeroCells,hzc]
    have hzo:∀c∈zc.toList,c.oneCell'=true:=by rw [←Sn];exact H_ FJ hone
    generalize xe:((cs.take (rows.length*sz)).toArray++news.toArray++zc)=arr at hrun
    have IJ:arr.toList=cs.take (rows.length*sz)++news++zc.toList:=by rw [←xe];simp
    have hb:Below w.heap.size w (w.drew.alloc (.cells arr e)):=((Below.refl _ _).drew).alloc (Nat.le_refl _) _
    have h2:=Ext.below (M:=M) hb
    have E4:Ext M w (fun b o=>M b o∨b=w.heap.size) (w.drew.alloc (.cells arr e)):=by
     refine ⟨h2.size,fun a v hc hm=>⟨fun hx=> ?_,(h2.keep a v hc hm).2⟩,fun b o ho hp hm=>⟨fun hx=> ?_,(h2.obj b o ho hp hm).2⟩⟩
     ·
      rcases hx with hx|hx
      · exact Cb
      · exact FC
     ·
      rcases hx with hx|hx
      · exact Cb
      · exact FD
    have hs1:(w.drew.alloc (.cells arr e)).heap.size=w.heap.size+1:=by simp
    refine ⟨_,_,fun b o=>M b o∨b=w.heap.size,hrun,⟨_,_,rfl⟩,E4,?_⟩
    refine h.replace hj E4 hb.os hb.tape hb.output (fun k hk _=>hb.block k hk) rfl (fun b o hm _=> .inl hm) (fun b o hx=> ?_) ?_ rfl (fun b hbk=> ?_)
    ·
     rcases hx with hx|hx
     · exact Me
     · omega
    ·
     refine .inr ⟨w.heap.size,cap',zc.toList,by rw [List.length_append],by rw [List.length_append];exact hge,hle,by rw [List.length_append];simpa using hzs,fun o=> .inr rfl,arr.toList,?_,?_,?_⟩
     ·
      have hh:(w.drew.alloc (.cells arr e)).heap[w.heap.size]? =some (.cells arr e (0,0)):=heap_alloc_new w.drew _
      rw [hh]
     · rw [IJ,List.flatten_append];exact ((hT.st E4).app ((Tg.st E4).hl hsz)).app (J1 _ _ _)
     ·
      intro c hc
      rw [IJ] at hc
      simp only [List.mem_append] at hc
      rcases hc with (hc|hc)|hc
      · exact lQ c (List.mem_of_mem_take hc)
      · exact Tg.2.1 c hc
      · exact hzo c hc
    ·
     have Ex:some w.heap.size=some b:=hbk
     injection Ex with e1
     subst e1
     exact ⟨by rw [hs1];omega,.inr (Nat.le_refl _)⟩
theorem GG {t e:TypeId} {x y:Operand} {sz bytes d:Nat} {zs:List Value} {rows rows':List (List Pr)} {v:Value} {p:Pr} {j:Nat} (hg:o.guard=none) (hd:o.dst=some d) (hn:d<n) (ho:o.op= .call { callee:= .builtin .append,args:= #[x,y],argTypes:= #[t,t] })
  (ht:P.underlying t=some (.slice e)) (hz:BB P e=some sz) (hby:Bz P e=some bytes) (FJ:Ba P e=some zs) (hzl:zs.length=sz) (hone:zs.all (·.oneCell')=true) (hsz:0<sz)
  (hx:VL E x (Ad v p)) (hy:VL E y (slice sz rows')) (hl:∀r∈rows,r.length=sz) (hpos:0<rows'.length) (G9:rows.length+rows'.length≤maxLen) (hfit:(rows.length+rows'.length)*bytes≤140737488355328):DI P M0 w0 S n j (SR.c (Bn e sz rows v)) ⟨d,Bn e sz (rows++rows')⟩ o E (lens (rows.length+rows'.length)):=by
 refine ⟨hg,fun M w a rs Yz he hI hj=> ?_⟩
 have h1:a.eval x=v:=(hx.ev he Dj).1
 have h2:=hy.ev he Dj
 obtain ⟨v',w',M',hrun,h3,h4,h5⟩:=cq (ty:=o.type) ht hz hby FJ hzl hone hsz hI hj hl h2 hpos G9 hfit
 have E6:(execOp a.eval o).run P w= .ok (.value v') w':=by simp [execOp,ho,resolve,invoke,builtin,h1,hrun]
 rw [E6]
 refine ⟨M',h3,h4,?_⟩
 have:(SR.at_ (a.put o.dst v') ⟨d,Bn e sz (rows++rows')⟩)=Bn e sz (rows++rows') v':=by unfold SR.at_ Slot.val;dsimp only;rw [hd,B6 Is]
 rw [this];exact h5
theorem A9.gC {M:Av} {w:World} {sz:Nat} {e:TypeId} {rows:List (List Pr)} {v:Value} {j:Nat} (h:A9 M0 w0 S rs M w) (hj:rs[j]? =some (Bn e sz rows v)) (hl:∀r∈rows,r.length=sz):
  ∃M',Ext M w M' w∧A9 M0 w0 S (rs.set j (Aw e sz v)) M' w∧(slice sz rows).h M' w v:=by
 have hjl:j<rs.length:=by rcases Nat.lt_or_ge j rs.length with h|h;exact h;rw [List.getElem?_eq_none h] at hj;cases hj
 rcases (h.hold _ (List.mem_of_getElem? hj)).1 with ⟨rfl,rfl⟩|xd
 · exact ⟨M,Ext.refl _ _,h.C4 hj rfl rfl Ux,AQ sz M w _ rfl⟩
 ·
  obtain ⟨b,cap,spare,rfl,hnc,hcm,hsp,lP⟩:=xd
  have hC:=h.C4 (r':=AF true b e (rows.flatten++spare.map is)) hj rfl rfl lP
  obtain ⟨M',h1,h2,h3⟩:=A9.frz hC (List.getElem?_set_self hjl) hl hnc hcm (by rw [List.length_map];exact hsp)
  rw [List.set_set] at h2
  exact ⟨M',h1,h2,h3⟩
end
section
variable {P:Program} {L:Lg P} {n:Fm} {fz:Nat} {E:Env} {M0:Av} {w0:World} {S:Nat→Prop} {rs:List At} {o:Oper} {ops:Array Oper} {r:List Oper}
def ABP (P:Program) (f:FuncId) (args:List Pr) (res:Pr) (r:At) (r':At) (r2:At):Prop:=Entry P f∧∀M0 w0 S rs M w vs,A9 M0 w0 S (r::r2::rs) M w→HL M w args vs→
 Calls P f vs.toArray w fun e w'=>∃v M',e= .returned v∧res.h M' w' v∧Ext M w M' w'∧A9 M0 w0 S (r'::r2::rs) M' w'
theorem ABP.of {f : FuncId} {g : Func} {c : Code} {ps : List Pr} {res : Pr} {R R' R2 : At} (hf : P.funcs[f]? = some g) (hb : g.body = some c) (hname : (g.name == "runtime.NumGoroutine") = false) (hlen : ps.length ≤ g.ntmps)
  (h:∀M0 w0 S rs M1 w1,Tr (YT P) g.ntmps (Lt 0 ps) (Hp M0 w0 S (R::Al M1 w1::R2::rs)) c (bodyPost P g (OY M0 w0 S (R2::rs) M1 w1 res (fun _=>R')))):ABP P f ps res R R' R2:=by
 refine ⟨⟨g,hf,hname,by rw [hb];rfl⟩,fun M0 w0 S rs M w vs hI hv=> ?_⟩
 refine calls_of_wp hf hb (h M0 w0 S rs M w _ _ ⟨M,?_,rfl,F9 hv,?_⟩)
 ·
  have:=hv.length
  simp [this];omega
 · exact Yw
end
abbrev Gl (k:IntKind):Pr:=Cp.ex fun i:Int=>is (.int k i)
theorem DG (k:IntKind) (i:Int):Pr.le (is (.int k i)) (Gl k):=fun _ _ _ h=>⟨i,h⟩
section
variable {P:Program} {L:Lg P} {I:Ck} {o:Oper} {E:Env}
theorem sX {op:BinOp} {t u:TypeId} {x y:Operand} {k:IntKind} (hop:(op== .xor||op== .or)=true) (ho:o.op= .binOp op t x y u) (hx:VL E x (Gl k)) (hy:VL E y (Gl k)):Ag P I o E (Gl k):=
 Ag.same fun M w a he _=>by
  obtain ⟨m,h1⟩:=hx.ev he Au
  obtain ⟨n,h2⟩:=hy.ev he Au
  have h1:a.eval x= .int k m:=h1
  have h2:a.eval y= .int k n:=h2
  cases op<;>simp at hop<;>exact ⟨_,by simp [execOp,ho,h1,h2,eqGuard,binOp,Op.intBits];rfl,_,rfl⟩
end
theorem Th {β:Type} {f:β→List Pr} {l:List β} {qs:List Pr} {sz:Nat} (hf:∀x,(f x).length=sz) {i:Int} (h:i.toNat<l.length):((((l.map f).flatten++qs).drop (0+i.toNat*sz)).take sz)=f (l[i.toNat]'h):=by
 rw [Nat.zero_add];exact lN hf (List.getElem?_eq_getElem h)
theorem JB {β:Type} {f:β→List Pr} {sz:Nat} (hf:∀x,(f x).length=sz) {l:List β} {qs:List Pr} {i:Int} {x:β} (h:i.toNat<l.length):((l.map f).flatten++qs).take (0+i.toNat*sz)++f x++((l.map f).flatten++qs).drop (0+i.toNat*sz+sz)=((l.set i.toNat x).map f).flatten++qs:=by
 rw [Nat.zero_add];exact Tf hf h
theorem RL {β:Type} {l:List β} {i j:Int} (hi:i.toNat<l.length) (hj:j.toNat<l.length):((l.set i.toNat (l[j.toNat]'hj)).set j.toNat (l[i.toNat]'hi)).Perm l:=List.set_set_perm hi hj
section
variable {P:Program} {L:Lg P} {n:Fm} {fz:Nat} {E:Env} {M0:Av} {w0:World} {S:Nat→Prop} {rs:List At} {o:Oper} {β:Type} {b:Nat} {e:TypeId} {f:β→List Pr} {qs:List Pr} {Φ:List β→Prop}
def Fi (b:Nat) (e:TypeId) (f:β→List Pr) (Φ:List β→Prop) (qs:List Pr):At where
 blk:=some b
 new:=true
 h M w:=∃st:List β,Φ st∧(AF true b e ((st.map f).flatten++qs)).h M w
 st M w M' w' he hk h:=let ⟨st,h1,h2⟩:=h;⟨st,h1,(AF true b e ((st.map f).flatten++qs)).st M w M' w' he hk h2⟩
theorem St.Mv (j:Nat) (hj:rs[j]? =some (Fi b e f Φ qs)) {a:Act} {w:World} (h:St n E (Hp M0 w0 S rs) a w):
  ∃st:List β,Φ st∧St n E (Hp M0 w0 S (rs.set j (AF true b e ((st.map f).flatten++qs)))) a w:=by
 obtain ⟨M,h1,h2,h3,h4⟩:=h
 have h4:A9 M0 w0 S rs M w:=h4
 obtain ⟨st,hp,h8⟩:=(h4.hold _ (List.mem_of_getElem? hj)).1
 exact ⟨st,hp,M,h1,h2,h3,h4.C4 hj rfl rfl h8⟩
theorem Tr.Mv {Q:Exit→Act→World→Prop} {c:Code} (j:Nat) (hj:rs[j]? =some (Fi b e f Φ qs))
  (k:∀st:List β,Φ st→Tr L n E (Hp M0 w0 S (rs.set j (AF true b e ((st.map f).flatten++qs)))) c Q):Tr L n E (Hp M0 w0 S rs) c Q:=
 fun a w hs=>let ⟨st,h1,h2⟩:=hs.Mv j hj;k st h1 a w h2
theorem Fin.Mv {Q:Exit→Act→World→Prop} {x:Exit} (j:Nat) (hj:rs[j]? =some (Fi b e f Φ qs))
  (k:∀st:List β,Φ st→Fin n E (Hp M0 w0 S (rs.set j (AF true b e ((st.map f).flatten++qs)))) Q x):Fin n E (Hp M0 w0 S rs) Q x:=
 fun a w hs=>let ⟨st,h1,h2⟩:=hs.Mv j hj;k st h1 a w h2
theorem TO.Mv {Q:Exit→Act→World→Prop} {ops:Array Oper} {r:List Oper} (j:Nat) (hj:rs[j]? =some (Fi b e f Φ qs))
  (k:∀st:List β,Φ st→TO P n ops r E (Hp M0 w0 S (rs.set j (AF true b e ((st.map f).flatten++qs)))) Q):TO P n ops r E (Hp M0 w0 S rs) Q:=
 fun m hl a w hs=>let ⟨st,h1,h2⟩:=hs.Mv j hj;k st h1 m hl a w h2
theorem St.JC {st:List β} (j:Nat) (hj:rs[j]? =some (AF true b e ((st.map f).flatten++qs))) (hp:Φ st) {a:Act} {w:World} (h:St n E (Hp M0 w0 S rs) a w):St n E (Hp M0 w0 S (rs.set j (Fi b e f Φ qs))) a w:=by
 obtain ⟨M,h1,h2,h3,h4⟩:=h
 have h4:A9 M0 w0 S rs M w:=h4
 exact ⟨M,h1,h2,h3,h4.C4 hj rfl rfl ⟨st,hp,(h4.hold _ (List.mem_of_getElem? hj)).1⟩⟩
theorem Tr.JC {Q:Exit→Act→World→Prop} {c:Code} {st:List β} (Φ:List β→Prop) (j:Nat) (hj:rs[j]? =some (AF true b e ((st.map f).flatten++qs))) (hp:Φ st)
  (k:Tr L n E (Hp M0 w0 S (rs.set j (Fi b e f Φ qs))) c Q):Tr L n E (Hp M0 w0 S rs) c Q:=Tr.conv (fun _ _ hs=>hs.JC j hj hp) k
theorem Fin.JC {Q:Exit→Act→World→Prop} {x:Exit} {st:List β} (Φ:List β→Prop) (j:Nat) (hj:rs[j]? =some (AF true b e ((st.map f).flatten++qs))) (hp:Φ st)
  (k:Fin n E (Hp M0 w0 S (rs.set j (Fi b e f Φ qs))) Q x):Fin n E (Hp M0 w0 S rs) Q x:=Fin.conv (fun _ _ hs=>hs.JC j hj hp) k
instance (priority:=300) ABQ (b:Bool) (p:Prop) [h:DU b false p]:DU (!b) true p:=⟨fun e=>h.D9 (by simpa using e)⟩
instance (priority:=300) ABR (b:Bool) (p:Prop) [h:DU b true p]:DU (!b) false p:=⟨fun e=>h.D9 (by simpa using e)⟩
end
end Cp
namespace Cp
open Go.Sort
section
variable {β:Type} [Inhabited β] {c:β×β→Int} {st:List β} {a b i j:Int}
def ltc (c:β×β→Int) (x y:β):Bool:=decide (c (x,y)<0)
theorem gx (h:i.toNat<st.length):st.toArray[i.toNat]! =st[i.toNat]:=by simp [h]
theorem sw (hi:i.toNat<st.length) (hj:j.toNat<st.length):((st.set i.toNat (st[j.toNat]'hj)).set j.toNat (st[i.toNat]'hi)).toArray=swp st.toArray i.toNat j.toNat:=by
 unfold swp
 rw [gx hi,gx hj]
 simp [Array.setIfInBounds_def,hi,hj]
omit [Inhabited β] in
theorem ABS {x y:β} (h:¬c (x,y)<0):ltc c x y=false:=decide_eq_false h
variable {hi F r:Int}
variable {lt:β→β→Bool} {a0 b0 m n:Nat} {l s s':Array β}
structure PS (lt:β→β→Bool) (a0 b0 a b:Nat) (l s:Array β):Prop where
 ha:a0≤a
 hab:a≤b
 hb:b≤b0
 hp:PermIn a0 b0 l s
 below:Below lt a b s
 out:∀i j,a0≤i→i<j→j<b0→(i<a∨b≤j)→lt s[j]! s[i]! =false
theorem PS.perm (h:PS lt a0 b0 m n l s) (hs:b0≤l.size) (hq:PermIn m n s s'):PS lt a0 b0 m n l s':=by
 have hsz:s.size=l.size:=h.hp.1
 have hns:n≤s.size:=by have:=h.hb;omega
 refine ⟨h.ha,h.hab,h.hb,permIn_trans _ _ _ _ _ h.hp (permIn_mono _ _ _ _ _ _ h.ha h.hb AA hq),Below.permA permIn_all hns h.below hq,fun i j h1 h2 h3 h4=> ?_⟩
 have hm:=h.hab
 by_cases hi:m≤i∧i<n
 ·
  have hj:n≤j:=by omega
  rw [hq.2.1 j (.inr hj)]
  exact permIn_all s s' m n (fun x=>lt s[j]! x=false) hns hq (fun k hk1 hk2=>h.out k j (by have:=h.ha;omega) AA h3 (.inr hj)) i hi.1 hi.2
 ·
  rw [hq.2.1 i AA]
  by_cases hj:m≤j∧j<n
  · exact permIn_all s s' m n (fun x=>lt x s[i]! =false) hns hq (fun k hk1 hk2=>h.out i k h1 AA (by have:=h.hb;omega) (.inl AA)) j hj.1 hj.2
  · rw [hq.2.1 j AA];exact h.out i j h1 h2 h3 h4
theorem PS.done (h:PS lt a0 b0 m n l s) (hs:SortedIn lt m n s):PermIn a0 b0 l s∧SortedIn lt a0 b0 s:=by
 refine ⟨h.hp,fun i j h1 h2 h3=> ?_⟩
 by_cases hh:i<m∨n≤j
 · exact h.out i j h1 h2 h3 hh
 · exact hs i j AA h2 AA
theorem PS.eq (hw:SWO lt) (h:PS lt a0 b0 m n l s) (hs:b0≤l.size) {pv:β} {k:Nat} (hm:0<m) (kK:lt s[m-1]! pv=false) (hk:m<k) (hkn:k≤n) (hq:PermIn m n s s') (h1:∀i,m≤i→i<k→lt pv s'[i]! =false) (h2:∀i,k≤i→i<n→lt pv s'[i]! =true):
  PS lt a0 b0 k n l s':=by
 have h':=h.perm hs hq
 have hle:∀j,m≤j→j<n→lt s'[j]! pv=false:=by
  intro j hj1 hj2
  by_cases hjk:k≤j
  · exact hw.asym (h2 j hjk hj2)
  ·
   have hb:=h'.below
   rcases hb with hb|hb
   · omega
   ·
    have hb:=hb j hj1 hj2
    rw [hq.2.1 (m-1) (.inl AA)] at hb
    exact hw.ntrans _ _ _ hb kK
 have key:∀i j,m≤i→i<k→m≤j→j<n→lt s'[j]! s'[i]! =false:=fun i j ha hb hc hd=>hw.ntrans _ _ _ (hle j hc hd) (h1 i ha hb)
 refine ⟨by have:=h.ha;omega,hkn,h.hb,h'.hp,.inr fun i hi1 hi2=>key (k-1) i AA AA AA hi2,fun i j g1 g2 g3 g4=> ?_⟩
 by_cases hh:i<m∨n≤j
 · exact h'.out i j g1 g2 g3 hh
 · exact key i j AA AA AA AA
structure lR (lt:β→β→Bool) (m n k:Nat) (s:Array β):Prop where
 h1:m≤k
 h2:k<n
 lo:∀i,m≤i→i<k→lt s[i]! s[k]! =true
 up:∀i,k<i→i<n→lt s[i]! s[k]! =false
theorem PS.left (hw:SWO lt) {k:Nat} (h:PS lt a0 b0 m n l s) (hs:b0≤l.size) (hp:lR lt m n k s) (hq:PermIn m k s s') (hso:SortedIn lt m k s'):PS lt a0 b0 (k+1) n l s':=by
 obtain ⟨h1,h2,lo,up⟩:=hp
 have hsz:s.size=l.size:=h.hp.1
 have hks:k≤s.size:=by have:=h.hb;omega
 have fY:PermIn m n s s':=permIn_mono _ _ _ _ _ _ (Nat.le_refl _) AA (by have:=h.hb;omega) hq
 have h':=h.perm hs fY
 have ek:s'[k]! =s[k]! :=hq.2.1 k (.inr (Nat.le_refl _))
 have lo':∀i,m≤i→i<k→lt s'[i]! s[k]! =true:=fun i g1 g2=>permIn_all s s' m k (fun x=>lt x s[k]! =true) hks hq lo i g1 g2
 have up':∀i,k<i→i<n→lt s'[i]! s[k]! =false:=fun i g1 g2=>by rw [hq.2.1 i (.inr AA)];exact up i g1 g2
 refine ⟨by have:=h.ha;omega,by omega,h.hb,h'.hp,.inr fun i g1 g2=> ?_,fun i j g1 g2 g3 g4=> ?_⟩
 · rw [show k+1-1=k by omega,ek];exact up' i AA g2
 ·
  by_cases hh:i<m∨n≤j
  · exact h'.out i j g1 g2 g3 hh
  ·
   rcases Nat.lt_trichotomy i k with hik|hik|hik
   ·
    rcases Nat.lt_trichotomy j k with hjk|hjk|hjk
    · exact hso i j AA g2 hjk
    · subst hjk;rw [ek];exact hw.asym (lo' i AA hik)
    · exact bY
   · subst hik;rw [ek];exact up' j g2 AA
   · omega
theorem PS.right (hw:SWO lt) {k:Nat} (h:PS lt a0 b0 m n l s) (hs:b0≤l.size) (hp:lR lt m n k s) (hq:PermIn (k+1) n s s') (hso:SortedIn lt (k+1) n s'):PS lt a0 b0 m k l s':=by
 obtain ⟨h1,h2,lo,up⟩:=hp
 have hsz:s.size=l.size:=h.hp.1
 have hns:n≤s.size:=by have:=h.hb;omega
 have fY:PermIn m n s s':=permIn_mono _ _ _ _ _ _ AA (Nat.le_refl _) hns hq
 have h':=h.perm hs fY
 have ek:s'[k]! =s[k]! :=hq.2.1 k (.inl AA)
 have lo':∀i,m≤i→i<k→lt s'[i]! s[k]! =true:=fun i g1 g2=>by rw [hq.2.1 i (.inl AA)];exact lo i g1 g2
 have up':∀i,k<i→i<n→lt s'[i]! s[k]! =false:=fun i g1 g2=>permIn_all s s' (k+1) n (fun x=>lt x s[k]! =false) hns hq (fun i q1 q2=>up i AA q2) i AA g2
 refine ⟨h.ha,h1,by have:=h.hb;omega,h'.hp,?_,fun i j g1 g2 g3 g4=> ?_⟩
 ·
  rcases h'.below with hb|hb
  · exact .inl hb
  · exact .inr fun i q1 q2=>hb i q1 AA
 ·
  by_cases hh:i<m∨n≤j
  · exact h'.out i j g1 g2 g3 hh
  ·
   rcases Nat.lt_trichotomy i k with hik|hik|hik
   ·
    rcases Nat.lt_trichotomy j k with hjk|hjk|hjk
    · omega
    · subst hjk;rw [ek];exact hw.asym (lo' i AA hik)
    · exact bY
   · subst hik;rw [ek];exact up' j g2 AA
   · exact hso i j AA g2 AA
end
section
variable {β:Type} [Inhabited β] {c:β×β→Int} {st:List β}
def Adj (c:β×β→Int) (a b:Int) (l:List β):Prop:=∀k,a.toNat<k→k<b.toNat→ltc c l.toArray[k]! l.toArray[k-1]! =false
theorem Adj.go {a i k:Int} (h:Adj c a i st) (h0:0≤a) (ha:a<i) (hk:k=i-1) (hi:i.toNat<st.length) (hk':k.toNat<st.length) (hc:0≤c (st[i.toNat]'hi,st[k.toNat]'hk')):Adj c a (i+1) st:=fun m h1 h2=>by
 rcases Nat.lt_or_ge m i.toNat with hm|hm
 · exact h m h1 hm
 ·
  have e:m=i.toNat:=by omega
  subst e
  rw [show i.toNat-1=k.toNat by omega,gx hi,gx hk'];exact ABS AA
end
section
variable {β:Type} [Inhabited β]
def JZ (a b:Int) (l st:List β):Prop:=PermIn a.toNat b.toNat l.toArray st.toArray
def vm (c:β×β→Int) (a b:Int) (l st:List β):Prop:=PermIn a.toNat b.toNat l.toArray st.toArray∧SortedIn (ltc c) a.toNat b.toNat st.toArray
theorem JZ.len {a b:Int} {l st:List β} (h:JZ a b l st):st.length=l.length:=by have:=h.1;simpa using this
theorem vm.len {c:β×β→Int} {a b:Int} {l st:List β} (h:vm c a b l st):st.length=l.length:=by have:=h.1.1;simpa using this
def vn (c:β×β→Int) (hi first lo:Int) (l st:List β):Prop:=st.length=l.length∧st.toArray=siftDown (ltc c) hi.toNat first.toNat lo.toNat l.toArray
theorem vn.len {c:β×β→Int} {hi first lo:Int} {l st:List β} (h:vn c hi first lo l st):st.length=l.length:=h.1
abbrev PE (c:β×β→Int) (a b pv:Int) (l:List β):Nat×Array β:=partitionEqual (ltc c) l.toArray a.toNat b.toNat pv.toNat
abbrev PA (c:β×β→Int) (a b pv:Int) (l:List β):Nat×Bool×Array β:=partition (ltc c) l.toArray a.toNat b.toNat pv.toNat
def vo (c:β×β→Int) (a b pv:Int) (l st:List β):Prop:=st.length=l.length∧st.toArray=(PE c a b pv l).2
def vp (c:β×β→Int) (a b pv:Int) (l st:List β):Prop:=st.length=l.length∧st.toArray=(PA c a b pv l).2.2
theorem vo.len {c:β×β→Int} {a b pv:Int} {l st:List β} (h:vo c a b pv l st):st.length=l.length:=h.1
theorem vp.len {c:β×β→Int} {a b pv:Int} {l st:List β} (h:vp c a b pv l st):st.length=l.length:=h.1
theorem JZ.refl (a b:Int) (l:List β):JZ a b l l:=permIn_refl _ _ _
theorem JZ.swap {a b i j:Int} {l st:List β} (h:JZ a b l st) (hi:i.toNat<st.length) (hj:j.toNat<st.length) (h1:a.toNat≤i.toNat) (h2:i.toNat<b.toNat) (h3:a.toNat≤j.toNat) (h4:j.toNat<b.toNat) (hb:b.toNat≤l.length):
  JZ a b l ((st.set i.toNat (st[j.toNat]'hj)).set j.toNat (st[i.toNat]'hi)):=by
 unfold JZ
 rw [sw hi hj]
 exact permIn_trans _ _ _ _ _ h (swp_permIn _ _ _ _ _ h1 h2 h3 h4 (by have:=h.len;simp;omega))
theorem JZ.trans {a b:Int} {l m st:List β} (h:JZ a b l m) (k:JZ a b m st):JZ a b l st:=permIn_trans _ _ _ _ _ h k
end
section
open Go
variable {P:Program} {L:Lg P} {n:Fm} {fz:Nat} {E:Env} {M0:Av} {w0:World} {S:Nat→Prop} {rs:List At} {new:Bool} {b:Nat} {T:TypeId} {ps:List Pr}
end
end Cp
namespace Cp
open Go Go.RowKit Go.Great
section
variable {P:Program} {L:Lg P} {n:Fm} {fz:Nat} {E:Env} {I:Ck} {Q:Exit→Act→World→Prop}
theorem Tr.Pp {α0 α1:Type} (K:Env) (hK:CU E K) (F:α0→α1→Value→Env) (Ii:α0→α1→Value→Ck) (C:α0→α1→Prop) {x y:Code} (h:Tr L n E I x (Exit.then (fun a w=>∃x0 x1 v0,C x0 x1∧St n (F x0 x1 v0++K) (Ii x0 x1 v0) a w) Q))
  (k:∀x0 x1 v0,C x0 x1→Tr L n (F x0 x1 v0++K) (Ii x0 x1 v0) y Q):Tr L n E I (.seq x y) Q:=
 Tr.cut (fun y:α0×α1×Value=>F y.1 y.2.1 y.2.2++K) (fun y=>Ii y.1 y.2.1 y.2.2) (fun y=>C y.1 y.2.1) (Tr.post h fun e a w h=>by cases e<;>first|exact h|(obtain ⟨x0,x1,v0,h1,h2⟩:=h;exact ⟨(x0,x1,v0),h1,h2⟩)) fun y hy=>k y.1 y.2.1 y.2.2 hy
end
section
variable {P:Program} {L:Lg P} {n:Fm} {fz:Nat} {E:Env} {M0:Av} {w0:World} {S:Nat→Prop} {rs:List At} {β:Type} {e:TypeId} {sz:Nat} {f:β→List Pr} {Φ:List β→Prop} {v:Value}
theorem St.sY {rows:List (List Pr)} (j d:Nat) {p:Pr} (hj:rs[j]? =some (Bn e sz rows v)) (hd:E.lookup d=some (Ad v p)) (hf:∀r∈rows,r.length=sz) {a:Act} {w:World} (hs:St n E (Hp M0 w0 S rs) a w):
  St n ((d,Ad v (slice sz rows))::E) (Hp M0 w0 S (rs.set j (Aw e sz v))) a w:=by
 obtain ⟨M,h1,h2,h3,h4⟩:=hs
 have h4:A9 M0 w0 S rs M w:=h4
 obtain ⟨M',h6,h7,h8⟩:=A9.gC h4 hj hf
 refine ⟨M',h1,h2,fun s q hq=> ?_,h7⟩
 simp only [List.lookup] at hq
 split at hq
 ·
  rename_i e1
  have:s=d:=by simpa using e1
  subst this
  simp only [Option.some.injEq] at hq
  subst hq
  have h9:=(h3 _ _ hd).1
  exact ⟨h9,by rw [h9];exact h8⟩
 · exact q.st _ _ _ _ _ h6 (h3 s q hq)
theorem Tr.sY {Q:Exit→Act→World→Prop} {c:Code} {rows:List (List Pr)} (j d:Nat) {p:Pr} (hj:rs[j]? =some (Bn e sz rows v)) (hd:E.lookup d=some (Ad v p)) (hf:∀r∈rows,r.length=sz)
  (k:Tr L n ((d,Ad v (slice sz rows))::E) (Hp M0 w0 S (rs.set j (Aw e sz v))) c Q):Tr L n E (Hp M0 w0 S rs) c Q:=
 fun a w hs=>k a w (hs.sY j d hj hd hf)
theorem Jy {rows:List (List Pr)} (h:rows=[]):Pr.le (is (.slice none 0 0)) (Ad (.slice none 0 0) (lens rows.length)):=by
 subst h;exact fun _ _ _ hv=>⟨hv,⟨none,0,by rw [hv];rfl⟩⟩
theorem DM {v:Value} {a b:Nat} (h:a=b):Pr.le (Ad v (lens a)) (Ad v (lens b)):=by subst h;exact Pr.le_refl _
end
section
variable {P:Program} {L:Lg P} {n:Fm} {fz:Nat} {E:Env} {M0:Av} {w0:World} {S:Nat→Prop} {rs:List At} {o:Oper}
end
section
variable {P:Program} {L:Lg P} {n:Fm} {fz:Nat} {E:Env} {M0:Av} {w0:World} {S:Nat→Prop} {rs:List At} {ε:Type} {res:ε→List At}
def HX (res:ε→List At) (es:List ε):List At:=es.flatMap res
theorem VU:∀{es:List ε} {k:Nat} {x:ε},es[k]? =some x→(HX res es).Perm (res x++HX res (es.eraseIdx k))
 |[],_,_,h=>by simp at h
 |a::es,0,x,h=>by
  simp only [List.getElem?_cons_zero,Option.some.injEq] at h
  subst h
  exact List.Perm.refl _
 |a::es,k+1,x,h=>by
  have ih:=VU (es:=es) (k:=k) (x:=x) D3
  show (res a++HX res es).Perm (res x++(res a++HX res (es.eraseIdx k)))
  refine (ih.append_left (res a)).trans ?_
  rw [←List.append_assoc,←List.append_assoc]
  exact List.perm_append_comm.append_right _
theorem cr:∀{es:List ε} {k:Nat} (x:ε),k<es.length→(res x++HX res (es.eraseIdx k)).Perm (HX res (es.set k x))
 |[],_,_,h=>absurd h (Nat.not_lt_zero _)
 |a::es,0,x,_=>List.Perm.refl _
 |a::es,k+1,x,h=>by
  have ih:=cr (es:=es) (k:=k) x D3
  show (res x++(res a++HX res (es.eraseIdx k))).Perm (res a++HX res (es.set k x))
  refine List.Perm.trans ?_ (ih.append_left (res a))
  rw [←List.append_assoc,←List.append_assoc]
  exact List.perm_append_comm.append_right _
theorem W9 (es:List ε) (x:ε):HX res (es++[x])=HX res es++res x:=by unfold HX;simp
theorem RM {a b c:List At} (h:b.Perm c):(a++b).Perm (a++c):=h.append_left a
theorem St.perm {rs':List At} (hp:rs.Perm rs') {a:Act} {w:World} (h:St n E (Hp M0 w0 S rs) a w):St n E (Hp M0 w0 S rs') a w:=by
 obtain ⟨M,h1,h2,h3,h4⟩:=h
 exact ⟨M,h1,h2,h3,A9.perm hp h4⟩
theorem Tr.focus {Q:Exit→Act→World→Prop} {c:Code} (Co:List At) {es:List ε} {k:Nat} {x:ε} (hx:es[k]? =some x) (O6:rs=Co++HX res es) (kk:Tr L n E (Hp M0 w0 S (res x++(Co++HX res (es.eraseIdx k)))) c Q):Tr L n E (Hp M0 w0 S rs) c Q:=
 Tr.conv (fun _ _ hs=>hs.perm (by
  subst O6
  refine (RM (VU hx)).trans ?_
  rw [←List.append_assoc,←List.append_assoc]
  exact List.perm_append_comm.append_right _)) kk
theorem Mw (Co:List At) {es:List ε} {k:Nat} (x:ε) (hk:k<es.length) (O6:rs=res x++(Co++HX res (es.eraseIdx k))):rs.Perm (Co++HX res (es.set k x)):=by
 subst O6
 refine List.Perm.trans ?_ (RM (cr x hk))
 rw [←List.append_assoc,←List.append_assoc]
 exact List.perm_append_comm.append_right _
theorem Fin.VV {Q:Exit→Act→World→Prop} {e:Exit} (Co:List At) {es:List ε} {k:Nat} (x:ε) (hk:k<es.length) (O6:rs=res x++(Co++HX res (es.eraseIdx k))) (kk:Fin n E (Hp M0 w0 S (Co++HX res (es.set k x))) Q e):Fin n E (Hp M0 w0 S rs) Q e:=
 Fin.conv (fun _ _ hs=>hs.perm (Mw Co x hk O6)) kk
theorem Tr.VV {Q:Exit→Act→World→Prop} {c:Code} (Co:List At) {es:List ε} {k:Nat} (x:ε) (hk:k<es.length) (O6:rs=res x++(Co++HX res (es.eraseIdx k))) (kk:Tr L n E (Hp M0 w0 S (Co++HX res (es.set k x))) c Q):Tr L n E (Hp M0 w0 S rs) c Q:=
 Tr.conv (fun _ _ hs=>hs.perm (Mw Co x hk O6)) kk
theorem Tr.fold {Q:Exit→Act→World→Prop} {c:Code} (Co:List At) {es:List ε} (x:ε) (O6:rs=res x++(Co++HX res es)) (kk:Tr L n E (Hp M0 w0 S (Co++HX res (es++[x]))) c Q):Tr L n E (Hp M0 w0 S rs) c Q:=
 Tr.conv (fun _ _ hs=>hs.perm (by
  subst O6
  rw [W9,←List.append_assoc Co]
  exact List.perm_append_comm)) kk
theorem Tr.ABT {Q:Exit→Act→World→Prop} {c:Code} {e:TypeId} {sz:Nat} {rows:List (List Pr)} {v:Value} (j:Nat) (hj:rs[j]? =some (Bn e sz rows v)) (hne:rows≠[])
  (k:∀(b cap:Nat) (sp:List Value),v= .slice (some ⟨b,0,none⟩) rows.length cap→rows.length≤cap→cap≤maxLen→sp.length=(cap-rows.length)*sz→Tr L n E (Hp M0 w0 S (rs.set j (AF true b e (rows.flatten++sp.map is)))) c Q):Tr L n E (Hp M0 w0 S rs) c Q:=by
 intro a w hs
 obtain ⟨M,h1,h2,h3,h4⟩:=hs
 have h4:A9 M0 w0 S rs M w:=h4
 rcases (h4.hold _ (List.mem_of_getElem? hj)).1 with ⟨h5,_⟩|⟨b,cap,sp,rfl,h5,h6,h7,h8⟩
 · exact absurd h5 hne
 · exact k b cap sp rfl h5 h6 h7 a w ⟨M,h1,h2,h3,h4.C4 hj rfl rfl h8⟩
end
section
variable {P:Program} {L:Lg P} {n:Fm} {fz:Nat} {E:Env} {M0:Av} {w0:World} {S:Nat→Prop} {rs:List At} {o:Oper}
end
section
variable {P:Program} {L:Lg P} {n:Fm} {fz:Nat} {E:Env} {M0:Av} {w0:World} {S:Nat→Prop} {rs:List At} {o:Oper}
theorem Bj.ZN {f:FuncId} {e:TypeId} {sz:Nat} {rows:List (List Pr)} {ps:List Pr} {res:Pr} {R:At} (h:Bj P f ps res R (fun v=>Fh e sz rows v)):Bj P f ps res R (fun v=>Bn e sz rows v):=by
 refine ⟨h.1,fun M0 w0 S rs M w vs hI hv=>(h.2 M0 w0 S rs M w vs hI hv).mono ?_⟩
 rintro e' w' ⟨v,M',rfl,h2,h3,h4⟩
 exact ⟨v,M',rfl,h2,h3,h4.C4 (i:=0) rfl rfl rfl (.inr (h4.hold _ (List.mem_cons_self ..)).1)⟩
instance zW (p q:Pr) [RI p] [RI q]:RI (Dz [p,q]):=⟨fun M M' w v ⟨cs,h1,h2⟩=>⟨cs,h1,by
 match cs,h2 with
 |[a,b],h2=>exact ⟨RI.free _ _ _ _ h2.1,RI.free _ _ _ _ h2.2.1,trivial⟩⟩⟩
end
section
variable {P:Program} {L:Lg P} {n:Fm} {fz:Nat} {E:Env} {M0:Av} {w0:World} {S:Nat→Prop} {o:Oper}
end
section
variable {P:Program} {L:Lg P} {n:Fm} {fz:Nat} {E:Env} {M0:Av} {w0:World} {S:Nat→Prop} {rs:List At} {ε:Type} {res:ε→List At}
theorem A9.VW {Φ:ε→Av→World→Prop} {w:World} (hst:∀x M M',Ext M w M' w→Φ x M w→Φ x M' w) (h1:∀x rs M,A9 M0 w0 S (res x++rs) M w→∃M',Ext M w M' w∧A9 M0 w0 S rs M' w∧Φ x M' w):
  ∀(X:List ε) (Co:List At) (M:Av),A9 M0 w0 S (Co++HX res X) M w→∃M',Ext M w M' w∧A9 M0 w0 S Co M' w∧∀x∈X,Φ x M' w
 |[],Co,M,h=>⟨M,Ext.refl _ _,by simpa [HX] using h,fun x hx=>by simp at hx⟩
 |x::X,Co,M,h=>by
  have hp:(Co++HX res (x::X)).Perm (res x++(Co++HX res X)):=by
   show (Co++(res x++HX res X)).Perm _
   rw [←List.append_assoc,←List.append_assoc]
   exact List.perm_append_comm.append_right _
  obtain ⟨M1,g1,g2,g3⟩:=h1 x _ M (A9.perm hp h)
  obtain ⟨M2,k1,k2,k3⟩:=A9.VW hst h1 X Co M1 g2
  refine ⟨M2,g1.trans k1,k2,fun y hy=> ?_⟩
  rcases List.mem_cons.1 hy with rfl|hy
  · exact hst _ _ _ k1 g3
  · exact k3 y hy
theorem Tr.eqC {Q:Exit→Act→World→Prop} {c:Code} (j:Nat) {new:Bool} {b:Nat} {T:TypeId} {ps:List Pr} (qs:List Pr) (hi:rs[j]? =some (AF new b T ps)) (h:ps=qs) (k:Tr L n E (Hp M0 w0 S (rs.set j (AF new b T qs))) c Q):Tr L n E (Hp M0 w0 S rs) c Q:=by
 subst h;exact Tr.HY j ps hi (Qz.rfl' ps) k
theorem Fin.eqC {Q:Exit→Act→World→Prop} {e:Exit} (j:Nat) {new:Bool} {b:Nat} {T:TypeId} {ps:List Pr} (qs:List Pr) (hi:rs[j]? =some (AF new b T ps)) (h:ps=qs) (k:Fin n E (Hp M0 w0 S (rs.set j (AF new b T qs))) Q e):Fin n E (Hp M0 w0 S rs) Q e:=by
 subst h;exact Fin.HY j ps hi (Qz.rfl' ps) k
theorem lS {e:TypeId} {sz:Nat} {rows rows':List (List Pr)} {v:Value} {M:Av} {w:World} (hl:rows.length=rows'.length) (hf:rows.flatten.length=rows'.flatten.length) (h:∀vs,HL M w rows.flatten vs→HL M w rows'.flatten vs) (ho:(Bn e sz rows v).h M w):(Bn e sz rows' v).h M w:=by
 rcases ho with ⟨h1,h2⟩|⟨b,cap,sp,h1,h2,h3,h4,h5,cs,h6,h7,h8⟩
 ·
  refine .inl ⟨?_,h2⟩
  subst h1
  exact List.length_eq_zero_iff.1 hl.symm
 ·
  refine .inr ⟨b,cap,sp,by rw [←hl];exact h1,by rw [←hl];exact h2,h3,by rw [←hl];exact h4,h5,cs,h6,?_,h8⟩
  have e1:=h7.take rows.flatten.length
  have e2:=h7.drop rows.flatten.length
  rw [List.take_left] at e1
  rw [List.drop_left] at e2
  have:=(h _ e1).app e2
  rwa [List.take_append_drop] at this
theorem Tr.VW {Q:Exit→Act→World→Prop} {c:Code} {X:List ε} {Φ:ε→Av→World→Prop} {e:TypeId} {sz d:Nat} {f g:ε→List Pr} {v:Value} {p:Pr} (Co:List At) (O6:rs=Bn e sz (X.map f) v::Co++HX res X) (hd:E.lookup d=some (Ad v p)) (hf:∀x,(f x).length=sz) (hg:∀x,(g x).length=sz)
  (hst:∀x M M' w,Ext M w M' w→Φ x M w→Φ x M' w) (h1:∀x rs M w,A9 M0 w0 S (res x++rs) M w→∃M',Ext M w M' w∧A9 M0 w0 S rs M' w∧Φ x M' w) (h2:∀x M w vs,Φ x M w→HL M w (f x) vs→HL M w (g x) vs)
  (k:Tr L n ((d,Ad v (slice sz (X.map g)))::E) (Hp M0 w0 S (Aw e sz v::Co)) c Q):Tr L n E (Hp M0 w0 S rs) c Q:=by
 subst O6
 intro a w hs
 obtain ⟨M,k1,k2,k3,k4⟩:=hs
 have k4:A9 M0 w0 S ((Bn e sz (X.map f) v::Co)++HX res X) M w:=k4
 obtain ⟨M1,g1,g2,g3⟩:=A9.VW (Φ:=Φ) (fun x M M'=>hst x M M' w) (fun x rs M=>h1 x rs M w) X _ M k4
 have hlen:∀(f:ε→List Pr),(∀x,(f x).length=sz)→(X.map f).flatten.length=X.length*sz:=fun f hf=>by
  rw [Dr (BD hf),List.length_map]
 have hown:(Bn e sz (X.map g) v).h M1 w:=by
  refine lS AV (by rw [hlen f hf,hlen g hg]) (fun vs hvs=> ?_) (g2.hold _ (List.mem_cons_self ..)).1
  have key:∀(Y:List ε) (vs:List Value),(∀x∈Y,Φ x M1 w)→HL M1 w (Y.map f).flatten vs→HL M1 w (Y.map g).flatten vs:=by
   intro Y
   induction Y with
   |nil=>intro vs _ h;exact h
   |cons y Y ih=>
    intro vs hY h
    rw [List.map_cons,List.flatten_cons] at h ⊢
    have e1:=h.take (f y).length
    have e2:=h.drop (f y).length
    rw [List.take_left] at e1
    rw [List.drop_left] at e2
    have:=(h2 y M1 w _ (hY y (List.mem_cons_self ..)) e1).app (ih _ (fun x hx=>hY x (List.mem_cons_of_mem _ hx)) e2)
    rwa [List.take_append_drop] at this
  exact key X vs g3 hvs
 have g4:=g2.C4 (i:=0) (r':=Bn e sz (X.map g) v) rfl rfl rfl hown
 obtain ⟨M2,j1,j2,j3⟩:=A9.gC (j:=0) g4 rfl (BD hg)
 refine k a w ⟨M2,k1,k2,fun s q hq=> ?_,j2⟩
 have hE:Ext M w M2 w:=g1.trans j1
 simp only [List.lookup] at hq
 split at hq
 ·
  rename_i e1
  have:s=d:=by simpa using e1
  subst this
  simp only [Option.some.injEq] at hq
  subst hq
  have h9:=(k3 _ _ hd).1
  exact ⟨h9,by rw [h9];exact j3⟩
 · exact q.st _ _ _ _ _ hE (k3 s q hq)
end
section
variable {P:Program} {L:Lg P} {n:Fm} {fz:Nat} {E:Env} {M0:Av} {w0:World} {S:Nat→Prop} {o:Oper}
theorem W_ {I:Ck} {t e:TypeId} {x:Operand} {m:Nat} (ho:o.op= .call { callee:= .builtin .len,args:= #[x],argTypes:= #[t] }) (ht:P.underlying t=some (.slice e)) (hx:VL E x (lens m)):Ag P I o E (int m):=
 Ag.same fun M w a he _=>by
  obtain ⟨A,c,h1⟩:=hx.ev he Dj
  exact ⟨.int .i64 m,by simp [execOp,ho,resolve,invoke,builtin,Builtin.len_,h1,run_underlying ht,goInt],rfl⟩
end
end Cp
namespace Cp
open Go Go.RowKit
section
variable {P:Program} {L:Lg P} {I:Ck} {o:Oper} {E:Env}
theorem gD {c y:Operand} {b d:Bool} (ho:o.op= .pick c (.const (.bool true)) y) (hc:VL E c (bool b)) (hy:VL E y (bool d)):Ag P I o E (bool (b||d)):=by
 cases b with
 |true=>exact Ko ho hc rfl (vl rfl)
 |false=>exact Kq ho hc rfl hy
theorem ZO {c x:Operand} {b d:Bool} (ho:o.op= .pick c x (.const (.bool false))) (hc:VL E c (bool b)) (hx:VL E x (bool d)):Ag P I o E (bool (b&&d)):=by
 cases b with
 |true=>exact Ko ho hc rfl hx
 |false=>exact Kq ho hc rfl (vl rfl)
theorem ZP {β:Type} {g:β→Pr} {l:List β} {qs:List Pr} {i:Int} (h:i.toNat<l.length):((l.map fun x=>[g x]).flatten++qs)[0+i.toNat*1]? =some (g (l[i.toNat]'h)):=
 lO (f:=fun x=>[g x]) (fun _=>rfl) (List.getElem?_eq_getElem h) rfl
end
section
variable {P:Program} {L:Lg P} {n:Fm} {fz:Nat} {E:Env} {M0:Av} {w0:World} {S:Nat→Prop} {rs:List At} {o:Oper}
end
end Cp
namespace Cp
open Go Go.RowKit Go.Great
def Fj {α:Type} (P:Program) (f:FuncId) (args:List Pr) (pre:List At) (C:α→Prop) (res:α→Pr) (post:α→List At):Prop:=Entry P f∧∀M0 w0 S rs M w vs,A9 M0 w0 S (pre++rs) M w→HL M w args vs→
 Calls P f vs.toArray w fun e w'=>∃v M' x,e= .returned v∧C x∧(res x).h M' w' v∧Ext M w M' w'∧A9 M0 w0 S (post x++rs) M' w'
def Of {α:Type} (M0:Av) (w0:World) (S:Nat→Prop) (rs:List At) (M1:Av) (w1:World) (C:α→Prop) (res:α→Pr) (post:α→List At) (e:Ending) (w':World):Prop:=∃v M' x,e= .returned v∧C x∧(res x).h M' w' v∧Ext M1 w1 M' w'∧A9 M0 w0 S (post x++rs) M' w'
section
variable {P:Program} {L:Lg P} {n:Fm} {fz:Nat} {E:Env} {M0:Av} {w0:World} {S:Nat→Prop} {rs:List At} {α:Type} {pre:List At} {C:α→Prop} {res:α→Pr} {post:α→List At} {M1:Av} {w1:World} {g:Func} {o:Oper} {r:List Oper} {ops:Array Oper}
theorem Fj.of {f : FuncId} {c : Code} {ps : List Pr} (hf : P.funcs[f]? = some g) (hb : g.body = some c) (hname : (g.name == "runtime.NumGoroutine") = false) (hlen : ps.length ≤ g.ntmps)
  (h:∀M0 w0 S rs M1 w1,Tr (YT P) g.ntmps (Lt 0 ps) (Hp M0 w0 S (pre++Al M1 w1::rs)) c (bodyPost P g (Of M0 w0 S rs M1 w1 C res post))):Fj P f ps pre C res post:=by
 refine ⟨⟨g,hf,hname,by rw [hb];rfl⟩,fun M0 w0 S rs M w vs hI hv=> ?_⟩
 refine calls_of_wp hf hb (h M0 w0 S rs M w _ _ ⟨M,?_,rfl,F9 hv,?_⟩)
 ·
  have:=hv.length
  simp [this];omega
 · exact Yx
theorem A9.RN {M:Av} {w:World} {f:FuncId} {args:List Pr} {rest:List At} (hf:Fj P f args pre C res post) (hp:rs.Perm (pre++rest)) (hI:A9 M0 w0 S rs M w) {vs:List Value} (hv:HL M w args vs):
  Calls P f vs.toArray w fun e w'=>∃v M' x,e= .returned v∧C x∧(res x).h M' w' v∧Ext M w M' w'∧A9 M0 w0 S (post x++rest) M' w':=hf.2 M0 w0 S rest M w vs (A9.perm hp hI) hv
theorem TO.RN {Q:Exit→Act→World→Prop} {f:FuncId} {xs:Array Operand} {ts:Array TypeId} {ps:List Pr} (rest:List At) {d:Nat} (hg:o.guard=none) (hd:o.dst=some d) (hn:d<n) (ho:o.op= .call { callee:= .value (.func f),args:=xs,argTypes:=ts }) (hf:Fj P f ps pre C res post)
  (hv:Hz E xs.toList ps) (hp:rs.Perm (pre++rest)) (k:∀x,C x→TO P n ops r ((d,res x)::E) (Hp M0 w0 S (post x++rest)) Q):TO P n ops (o::r) E (Hp M0 w0 S rs) Q:=
 TO.ff hg fun K M w a hsz hdf he hI hK=>by
  have hI:A9 M0 w0 S rs M w:=hI
  have h1:=Hz.GQ (o:=o) (CX he) (xs:=xs.toList) (fun x hx=>by simp [ho,Op.operands,Call.operands];exact .inr Gs) hv
  have hrun:(execOp a.eval o).run P w= .ok (.enter f (xs.toList.map a.eval).toArray) w:=by
   simp [execOp,ho,resolve,Deferred.ofValue,Act.eval,invoke,EM hf.1,IK xs]
  unfold Oper.wp
  rw [hrun]
  refine (A9.RN hf hp hI h1).mono ?_
  rintro e w' ⟨v,M',x,rfl,hC,h2,h3,h4⟩
  refine hK _ _ _ _ (k x hC) ⟨M',by rw [B9];exact hsz,by rw [put_defers];exact hdf,?_,h4⟩
  intro s q hq
  simp only [List.lookup] at hq
  by_cases hs:s=d
  · subst hs;simp at hq;subst hq;rw [hd,B6 G8];exact h2
  · rw [show (s==d)=false by simpa using hs] at hq;rw [hd,BZ hs];exact q.st _ _ _ _ _ h3 (he s q hq)
theorem Fl {l:List At} {M:Av} {w:World} (h:A9 M0 w0 S (l++Al M1 w1::rs) M w):Ext M1 w1 M w∧A9 M0 w0 S (l++rs) M w:=
 ⟨(h.hold (Al M1 w1) AV).1,(A9.perm List.perm_middle h).J3⟩
theorem Fin.vu {rv:ResultVar} {q:Pr} {rs':List At} (x:α) (hr:g.results= #[rv]) (h:AM P E rs' rv q) (hC:C x) (hl:Pr.le q (res x)) (hp:rs'.Perm (post x++Al M1 w1::rs)):
  Fin ⟨fz,[]⟩ E (Hp M0 w0 S rs') (bodyPost P g (Of M0 w0 S rs M1 w1 C res post)) .ret:=by
 rintro a w ⟨M,_,hd,he,hi⟩
 have hi:A9 M0 w0 S rs' M w:=hi
 obtain ⟨v,hv,hp'⟩:=h M w a he (fun q hq=>(hi.hold q hq).1)
 obtain ⟨h1,h2⟩:=Fl (A9.perm hp hi)
 exact ⟨hd,v,results1 hr hv,_,M,x,rfl,hC,hl _ _ _ hp',h1,h2⟩
theorem Fin.XA {rv rv':ResultVar} {q q':Pr} {rs':List At} (x:α) (hr:g.results= #[rv,rv']) (h:AM P E rs' rv q) (h':AM P E rs' rv' q') (hC:C x) (hl:Pr.le (Dz [q,q']) (res x)) (hp:rs'.Perm (post x++Al M1 w1::rs)):
  Fin ⟨fz,[]⟩ E (Hp M0 w0 S rs') (bodyPost P g (Of M0 w0 S rs M1 w1 C res post)) .ret:=by
 rintro a w ⟨M,_,hd,he,hi⟩
 have hi:A9 M0 w0 S rs' M w:=hi
 obtain ⟨v,hv,ZQ⟩:=h M w a he (fun q hq=>(hi.hold q hq).1)
 obtain ⟨v',k5,hp2⟩:=h' M w a he (fun q hq=>(hi.hold q hq).1)
 obtain ⟨h1,h2⟩:=Fl (A9.perm hp hi)
 exact ⟨hd,_,results2 hr hv k5,_,M,x,rfl,hC,hl _ _ _ ⟨[_,_],rfl,ZQ,hp2,trivial⟩,h1,h2⟩
end
section
variable {P:Program} {L:Lg P} {n:Fm} {fz:Nat} {E:Env} {M0:Av} {w0:World} {S:Nat→Prop} {rs:List At} {o:Oper}
def xg:Value→Option Nat
 | .slice (some a) _ (_+1)=>some a.block
 |_=>none
def Bs (e:TypeId) (sz:Nat) (rows:List (List Pr)) (v:Value):At where
 blk:=xg v
 new:=true
 h M w:=(rows=[]∧∃A,v= .slice A 0 0)∨(∃(b cap:Nat) (spare:List Value),v= .slice (some ⟨b,0,none⟩) rows.length (cap+1)∧rows.length≤cap+1∧cap+1≤maxLen∧spare.length=(cap+1-rows.length)*sz∧(AF true b e (rows.flatten++spare.map is)).h M w)
 st M w M' w' he hk h:=by
  rcases h with h|⟨b,cap,spare,rfl,h1,h2,h3,h4⟩
  · exact .inl h
  · exact .inr ⟨b,cap,spare,rfl,h1,h2,h3,(AF true b e _).st _ _ _ _ he hk h4⟩
theorem BM {α:Type} {l:List α} {j:Nat} {x:α} (h:l[j]? =some x):j<l.length:=by
 rcases Nat.lt_or_ge j l.length with h'|h'
 · exact h'
 · rw [List.getElem?_eq_none h'] at h;cases h
theorem A9.blank {M:Av} {w:World} {j:Nat} {r:At} (h:A9 M0 w0 S rs M w) (hj:rs[j]? =some r):A9 M0 w0 S (rs.set j Bu) M w:=
 A9.perm (J2 (BM hj)) ((A9.perm (Cf hj) h).J3.Ji (r:=Bu) rfl trivial)
theorem RO (sz:Nat) (A:Option Addr) (M:Av) (w:World):(slice sz []).h M w (.slice A 0 0):=⟨A,0,rfl,Nat.le_refl _,Nat.zero_le _,fun _=>rfl,fun i row h=>by simp at h⟩
theorem gE (sz:Nat) (A:Option Addr) (M:Av) (w:World):(full sz []).h M w (.slice A 0 0):=⟨RO sz A M w,A,rfl⟩
theorem A9.xh {M:Av} {w:World} {sz:Nat} {e:TypeId} {rows:List (List Pr)} {v:Value} {j:Nat} (h:A9 M0 w0 S rs M w) (hj:rs[j]? =some (Bs e sz rows v)) (hl:∀r∈rows,r.length=sz):
  ∃M',Ext M w M' w∧A9 M0 w0 S (rs.set j Bu) M' w∧(slice sz rows).h M' w v:=by
 have hjl:=BM hj
 rcases (h.hold _ (List.mem_of_getElem? hj)).1 with ⟨rfl,A,rfl⟩|⟨b,cap,spare,rfl,hnc,hcm,hsp,lP⟩
 · exact ⟨M,Ext.refl _ _,h.blank hj,RO sz A M w⟩
 ·
  have hC:=h.C4 (r':=AF true b e (rows.flatten++spare.map is)) hj rfl rfl lP
  obtain ⟨M',h1,h2,h3⟩:=A9.frz hC (List.getElem?_set_self hjl) hl hnc hcm (by rw [List.length_map];exact hsp)
  have h4:=h2.blank (j:=j) (by rw [List.set_set];exact List.getElem?_set_self hjl)
  rw [List.set_set,List.set_set] at h4
  exact ⟨M',h1,h4,h3⟩
theorem HL.set {M:Av} {w:World} {ps:List Pr} {vs:List Value} {k:Nat} {p q:Pr} (h:HL M w ps vs) (hk:ps[k]? =some p) (hq:∀u,p.h M w u→q.h M w u):HL M w (ps.set k q) vs:=by
 refine Wz (by rw [h.length];simp) fun k' p' hk'=> ?_
 rw [List.getElem?_set] at hk'
 split at hk'
 ·
  rename_i e1
  subst e1
  split at hk'
  ·
   obtain ⟨u,hu,hpu⟩:=h.at_ k p hk
   simp at hk';subst hk'
   exact ⟨u,hu,hq u hpu⟩
  · cases hk'
 · exact h.at_ k' p' hk'
theorem A9.FA {M:Av} {w:World} {i j k sz b:Nat} {new:Bool} {T e:TypeId} {ps:List Pr} {rows:List (List Pr)} {v:Value} (h:A9 M0 w0 S rs M w) (hi:rs[i]? =some (AF new b T ps)) (hj:rs[j]? =some (Bs e sz rows v)) (hij:j≠i) (hk:ps[k]? =some (is v)) (hl:∀r∈rows,r.length=sz):
  ∃M',Ext M w M' w∧A9 M0 w0 S ((rs.set j Bu).set i (AF new b T (ps.set k (slice sz rows)))) M' w:=by
 obtain ⟨M',h1,h2,h3⟩:=h.xh hj hl
 have hi':(rs.set j Bu)[i]? =some (AF new b T ps):=by rw [List.getElem?_set_ne hij];exact hi
 refine ⟨M',h1,h2.C4 hi' rfl rfl ?_⟩
 obtain ⟨g1,cs,g2,g3,g4⟩:=(h2.hold _ (List.mem_of_getElem? hi')).1
 exact ⟨g1,cs,g2,g3.set hk (fun u hu=>by rw [show u=v from hu];exact h3),g4⟩
def part (sz:Nat) (v:Value) (k:Nat):Pr where
 h _ _ u:=∃a m c,v= .slice a m c∧k≤m∧u= .slice (if c=k then a else a.map fun x=>x.add (k*sz)) (m-k) (c-k)
 st _M _w _M' _w' _v _ h:=h
instance ABU (sz:Nat) (v:Value) (k:Nat):One (part sz v k):=⟨by rintro M w u ⟨a,m,c,h1,h2,rfl⟩;exact ⟨rfl,rfl⟩⟩
theorem Bj.frz {f:FuncId} {args:List Pr} {e:TypeId} {sz m:Nat} {rows:List (List Pr)} {R:At} (hl:∀r∈rows,r.length=sz) (h:Bj P f args (lens m) R (fun v=>Bn e sz rows v)):Bj P f args (slice sz rows) R (fun _=>Bu):=by
 refine ⟨h.1,fun M0 w0 S rs M w vs hI hv=>(h.2 M0 w0 S rs M w vs hI hv).mono ?_⟩
 rintro e' w' ⟨v,M',rfl,h2,h3,h4⟩
 obtain ⟨M2,j1,j2,j3⟩:=A9.gC (j:=0) h4 rfl hl
 exact ⟨v,M2,rfl,j3,h3.trans j1,j2.blank (j:=0) rfl⟩
theorem Bj.ABV {f:FuncId} {args:List Pr} {e:TypeId} {sz m:Nat} {rows:List (List Pr)} {R:At} (hl:∀r∈rows,r.length=sz) (h:Bj P f args (lens m) R (fun v=>Fh e sz rows v)):Bj P f args (slice sz rows) R (fun _=>Bu):=
 Bj.frz hl (Bj.ZN h)
theorem Bj.RP {f:FuncId} {e:TypeId} {sz:Nat} {rows:List (List Pr)} {ps:List Pr} {res:Pr} {R:At} (h0:rows≠[]) (h:Bj P f ps res R (fun v=>Fh e sz rows v)):Bj P f ps res R (fun v=>Bs e sz rows v):=by
 refine ⟨h.1,fun M0 w0 S rs M w vs hI hv=>(h.2 M0 w0 S rs M w vs hI hv).mono ?_⟩
 rintro e' w' ⟨v,M',rfl,h2,h3,h4⟩
 refine ⟨v,M',rfl,h2,h3,?_⟩
 have hpos:=List.length_pos_iff.2 h0
 obtain ⟨b,cap,spare,rfl,hnc,hcm,hsp,lP⟩:=(h4.hold _ (List.mem_cons_self ..)).1
 cases cap with
 |zero=>omega
 |succ cap=>exact h4.C4 (i:=0) rfl rfl rfl (.inr ⟨b,cap,spare,rfl,hnc,hcm,hsp,lP⟩)
theorem Bj.XB {f:FuncId} {e:TypeId} {sz sz':Nat} {ps:List Pr} (h:BG P f ps (full sz' [])):Bj P f ps (lens 0) Bu (fun v=>Bs e sz [] v):=by
 refine ⟨h.1,fun M0 w0 S rs M w vs hI hv=>(h.2 M w vs hI.bd hv).mono ?_⟩
 rintro e' w' ⟨v,rfl,⟨_,a,rfl⟩,h3⟩
 refine ⟨_,M,rfl,⟨_,_,rfl⟩,Ext.below h3,?_⟩
 have WS:A9 M0 w0 S (Bu::rs) M w':=(Hp M0 w0 S _).st _ _ _ h3 hI
 exact WS.C4 (i:=0) (r':=Bs e sz [] (.slice a 0 0)) rfl (by cases a<;>rfl) rfl (.inl ⟨rfl,a,rfl⟩)
def elp (sz:Nat) (v:Value) (i o:Nat):Pr where
 h _ _ u:=∃a m c,v= .slice (some a) m c∧u= .pointer (some (a.add (i*sz+o)))
 st _M _w _M' _w' _v _ h:=h
instance ADi (sz:Nat) (v:Value) (k o:Nat):One (elp sz v k o):=⟨by rintro M w u ⟨a,m,c,h1,rfl⟩;exact ⟨rfl,rfl⟩⟩
theorem HK {t e:TypeId} {x y:Operand} {k:IntKind} {l:Int} {sz j:Nat} {T:TypeId} {rows:List (List Pr)} {v:Value} (ho:o.op= .indexAddr t x y) (ht:P.underlying t=some (.slice e)) (hz:BB P e=some sz) (hx:VL E x (is v)) (hy:VL E y (is (.int k l))) (h0:0≤l) (hl:l<rows.length):
  Lu P M0 w0 S j (SR.c (Bs T sz rows v)) o E (elp sz v l.toNat 0):=by
 intro M w a rs he hI hj
 have h1:a.eval x=v:=hx.ev he Au
 have h3:a.eval y= .int k l:=hy.ev he Au
 have hj':rs[j]? =some (Bs T sz rows v):=hj
 rcases (hI.hold _ (List.mem_of_getElem? hj')).1 with ⟨rfl,A,hv⟩|⟨b,cap,spare,hv,hnc,hcm,hsp,lP⟩
 · simp at hl;omega
 ·
  have hrun:(execOp a.eval o).run P w= .ok (.value (.pointer (some ((⟨b,0,none⟩:Addr).add (l.toNat*sz))))) w:=by
   simp [execOp,ho,h1,h3,hv,Instr.indexAt,asIntOf,run_underlying ht,C0 hz,h0,hl]
  rw [hrun]
  exact ⟨⟨_,_,_,hv,rfl⟩,Below.refl _ _⟩
theorem ZR {I:Ck} {t:TypeId} {x:Operand} {f sz i q off:Nat} {v:Value} (ho:o.op= .fieldAddr t x f) (hf:Ab P t f=some off) (hx:VL E x (elp sz v i q)):Ag P I o E (elp sz v i (q+off)):=
 Ag.same fun M w a he _=>by
  obtain ⟨a0,m0,c0,hv,h1⟩:=hx.ev he Au
  exact ⟨.pointer (some ((a0.add (i*sz+q)).add off)),by simp [execOp,ho,h1,J0 hf],a0,m0,c0,hv,by rw [add_add,Nat.add_assoc]⟩
theorem gF {t:TypeId} {x:Operand} {sz j i:Nat} {T:TypeId} {rows:List (List Pr)} {row:List Pr} {v:Value} (ho:o.op= .load t x) (ht:Fa P t=true) (hz:BB P t=some sz) (hx:VL E x (elp sz v i 0)) (hl:∀r∈rows,r.length=sz) (hi:rows[i]? =some row):
  Lu P M0 w0 S j (SR.c (Bs T sz rows v)) o E (agg row):=by
 intro M w a rs he hI hj
 obtain ⟨a0,m0,c0,cJ,h1⟩:=hx.ev he Au
 rw [Nat.add_zero] at h1
 have hj':rs[j]? =some (Bs T sz rows v):=hj
 rcases (hI.hold _ (List.mem_of_getElem? hj')).1 with ⟨rfl,A,hv⟩|⟨b,cap,spare,hv,hnc,hcm,hsp,⟨_,cs,h4,h5,h6⟩⟩
 · simp at hi
 ·
  rw [cJ] at hv
  injection hv with e1 e2 e3
  injection e1 with e1
  subst e1
  have F8:=BM hi
  have hrl:=hl row (List.mem_of_getElem? hi)
  have hfl:=Dr hl
  have hle:(i+1)*sz≤rows.length*sz:=Nat.mul_le_mul_right sz F8
  rw [Nat.add_mul] at hle
  have h7:HL M w row ((cs.drop (i*sz)).take sz):=by
   have h8:=(h5.drop (i*sz)).take sz
   have e4:((rows.flatten++spare.map is).drop (i*sz)).take sz=row:=by
    refine List.ext_getElem? fun j=> ?_
    rw [List.getElem?_take]
    split
    ·
     rename_i hj
     rw [List.getElem?_drop,List.getElem?_append_left (by rw [hfl];omega),I_ hl hi hj]
    · rw [List.getElem?_eq_none AA]
   rwa [e4] at h8
  have hl':((cs.drop (i*sz)).take sz).length=sz:=by rw [h7.length,hrl]
  have hrun:(loadCells ((⟨b,0,none⟩:Addr).add (i*sz)) sz).run P w= .ok ((cs.drop (i*sz)).take sz).toArray w:=by
   have:=run_loadCells_list (P:=P) w ((⟨b,0,none⟩:Addr).add (i*sz)) ((cs.drop (i*sz)).take sz) (fun k u hk=>by
    rw [add_add,Ga]
    rw [List.getElem?_take] at hk
    split at hk
    · rw [List.getElem?_drop] at hk;simp [World.cell?,h4,hk]
    · cases hk)
   rwa [hl'] at this
  have E6:(execOp a.eval o).run P w= .ok (.value (.agg ((cs.drop (i*sz)).take sz).toArray)) w:=by simp [execOp,ho,h1,Instr.loadAt,Instr.sureAddr,loadVar,GR ht,C0 hz,hrun]
  rw [E6]
  exact ⟨⟨_,rfl,fun c hc=>h6 c (List.mem_of_mem_drop (List.mem_of_mem_take hc)),h7⟩,Below.refl _ _⟩
theorem XC {sz:Nat}:∀{rows:List (List Pr)} {i:Nat} {row:List Pr} {o:Nat} {qs S:List Pr},(∀r∈rows,r.length=sz)→rows[i]? =some row→o+qs.length≤sz→
  (rows.flatten++S).take (i*sz+o)++qs++(rows.flatten++S).drop (i*sz+o+qs.length)=(rows.set i (row.take o++qs++row.drop (o+qs.length))).flatten++S
 |[],_,_,_,_,_,_,h,_=>by simp at h
 |a::l,0,row,o,qs,S,hl,h,ho=>by
  simp at h;subst h
  have h1:=hl a AV
  rw [List.set_cons_zero,List.flatten_cons,List.flatten_cons,Nat.zero_mul,Nat.zero_add,List.append_assoc a,List.take_append_of_le_length AA,List.drop_append_of_le_length AA]
  simp
 |a::l,i+1,row,o,qs,S,hl,h,ho=>by
  have h1:=hl a AV
  have ih:=XC (S:=S) (fun r hr=>hl r (List.mem_cons_of_mem _ hr)) (i:=i) (row:=row) (o:=o) (qs:=qs) D3 ho
  rw [List.set_cons_succ, List.flatten_cons, List.flatten_cons, List.append_assoc a, List.append_assoc a, ← ih, List.take_append, List.drop_append, List.take_of_length_le (by rw [h1, Nat.succ_mul]; omega), List.drop_of_length_le (by rw [h1, Nat.succ_mul]; omega),
   show (i+1)*sz+o-a.length=i*sz+o by rw [h1,Nat.succ_mul];omega,show (i+1)*sz+o+qs.length-a.length=i*sz+o+qs.length by rw [h1,Nat.succ_mul];omega]
  simp
theorem Em {t:TypeId} {x y:Operand} {sz j i q m:Nat} {T:TypeId} {rows rows':List (List Pr)} {row qs:List Pr} {v:Value} (hg:o.guard=none) (ho:o.op= .store t x y) (hx:VL E x (elp sz v i q)) (hy:VL E y (Cv qs)) (hz:BB P t=some m) (hm:qs.length=m)
  (hl:∀r∈rows,r.length=sz) (hi:rows[i]? =some row) (hq:q+m≤sz) (hps:rows.set i (row.take q++qs++row.drop (q+m))=rows'):DI P M0 w0 S n j (SR.c (Bs T sz rows v)) (SR.c (Bs T sz rows' v)) o E any:=by
 refine ⟨hg,fun M w a rs hsz he hI hj=> ?_⟩
 obtain ⟨a0,m0,c0,cJ,h1⟩:=hx.ev he (show x∈o.op.operands.toList by simp [ho,Op.operands])
 obtain ⟨h2,h3⟩:=hy.ev he (show y∈o.op.operands.toList by simp [ho,Op.operands])
 have hj':rs[j]? =some (Bs T sz rows v):=hj
 have hjl:=BM hj'
 rcases (hI.hold _ (List.mem_of_getElem? hj')).1 with ⟨rfl,A,hv⟩|⟨b,cap,spare,hv,hnc,hcm,hsp,lP⟩
 · simp at hi
 ·
  subst hv
  injection cJ with e1 e2 e3
  injection e1 with e1
  subst e1
  have hC:=hI.C4 (r':=AF true b T (rows.flatten++spare.map is)) hj' rfl rfl lP
  have hjC:(rs.set j (AF true b T (rows.flatten++spare.map is)))[j]? =some (AF true b T (rows.flatten++spare.map is)):=List.getElem?_set_self hjl
  obtain ⟨_,cs,h4,h5,h6⟩:=lP
  have h5l:=h5.length
  have h2l:=h2.length
  have F8:=BM hi
  have hfl:=Dr hl
  rw [List.length_append,hfl,List.length_map] at h5l
  have hle:(i+1)*sz≤rows.length*sz:=Nat.mul_le_mul_right sz F8
  rw [Nat.succ_mul] at hle
  have hcells:(a.eval y).cells.size=m:=by rw [←hm,←h2l];simp
  have hrun:(storeCells ((⟨b,0,none⟩:Addr).add (i*sz+q)) (a.eval y).cells.toList 0).run P w= .ok () (w.setRow b (cs.take (i*sz+q)++(a.eval y).cells.toList++cs.drop (i*sz+q+m)).toArray):=by
   have:=run_storeCells_at (P:=P) b (i*sz+q) T (a.eval y).cells.toList 0 cs.toArray w h4 B8 h3
   rw [Ga,Nat.zero_add]
   simpa [hcells] using this
  have E6:(execOp a.eval o).run P w= .ok .skip (w.setRow b (cs.take (i*sz+q)++(a.eval y).cells.toList++cs.drop (i*sz+q+m)).toArray):=by
   simp [execOp,ho,h1,Instr.storeAt,Instr.sureAddr,storeVar,C0 hz,hcells,hrun]
  rw [E6]
  have hfs:=XC (S:=spare.map is) hl hi (o:=q) (qs:=qs) AA
  rw [hm,hps] at hfs
  obtain ⟨h7, h8⟩ := A9.write (qs := rows'.flatten ++ spare.map is) (cs := cs.take (i * sz + q) ++ (a.eval y).cells.toList ++ cs.drop (i * sz + q + m)) hC hjC (by rw [← hfs]; exact (((h5.take (i * sz + q)).app h2)).app (h5.drop (i * sz + q + m)))
   (fun c hc=>by
    simp only [List.mem_append] at hc
    rcases hc with (hc|hc)|hc
    · exact PW
    · exact h3 c hc
    · exact h6 c (List.mem_of_mem_drop hc))
  rw [List.set_set] at h7
  refine ⟨M,trivial,h8,?_⟩
  have hlen:rows'.length=rows.length:=by rw [←hps,List.length_set]
  have h9:=h7.C4 (r':=Bs T sz rows' (.slice (some ⟨b,0,none⟩) rows.length (cap+1))) (List.getElem?_set_self hjl) rfl rfl (.inr ⟨b,cap,spare,by rw [hlen],by rw [hlen];exact hnc,hcm,by rw [hlen];exact hsp,(h7.hold _ (List.mem_of_getElem? (List.getElem?_set_self hjl))).1⟩)
  rw [List.set_set] at h9
  exact h9
theorem A9.lT:∀{l:List At} {M:Av} {w:World},A9 M0 w0 S (l++rs) M w→A9 M0 w0 S rs M w
 |[],_,_,h=>h
 |_::l,_,_,h=>A9.lT (l:=l) h.J3
end
section
variable {P:Program} {L:Lg P} {E:Env} {I:Ck} {o:Oper}
section
variable {n:Fm} {fz:Nat} {M0:Av} {w0:World} {S:Nat→Prop}
end
end
def allI (p:Nat→Bool) (n:Nat):Bool:=(List.range n).all p
theorem B_ {p:Nat→Bool} {n:Nat}:allI p n=true↔∀j,j<n→p j=true:=by unfold allI;simp
theorem lU {p:Nat→Bool} {n:Nat} (h:∀j,j<n→p j=true):allI p n=true:=B_.2 h
theorem Qj {p:Nat→Bool} {n k:Nat} (hk:k<n) (h:p k=false):allI p n=false:=by
 rw [Bool.eq_false_iff];intro h';rw [B_.1 h' k hk] at h;cases h
theorem ED {p:Nat→Bool} {k:Nat} (h:∀j,j<k→p j=true) (hk:p k=true):∀j,j<k+1→p j=true:=by
 intro j hj
 by_cases e:j=k
 · subst e;exact hk
 · exact h j AA
section
variable {P:Program} {L:Lg P} {n:Fm} {fz:Nat} {I:Ck}
def ABW (P:Program) (I':Ck) (M:Av) (w:World) (p:Pr):Result Next→Prop
 | .ok (.value v) w'=>∃M',p.h M' w' v∧Ext M w M' w'∧I'.h M' w'
 | .ok .skip w'=>∃M',p.h M' w' undef∧Ext M w M' w'∧I'.h M' w'
 | .ok (.enter f args) w'=>Calls P f args w' fun e w''=>∃v M',e= .returned v∧p.h M' w'' v∧Ext M w M' w''∧I'.h M' w''
 |_=>False
def lV (P:Program) (n:Fm) (I I':Ck) (o:Oper) (E:Env) (p:Pr):Prop:=o.guard=none∧∀M w (a:Act),a.tmps.size=n.sz→Cc M w E o a→I.h M w→ABW P I' M w p ((execOp a.eval o).run P w)
def Ti (P:Program) (n:Fm) (I:Ck) (ops:Array Oper):Nat→List Oper→Env→(Ck→Env→Prop)→Prop
 |_,[],_,_=>False
 |0,o::r,E,K=>∃p I',lV P n I I' o E p∧(∀d,o.dst=some d→d<n)∧Ch P n I' ops r (upd o p E) (K I')
 |c+1,o::r,E,K=>∃p,kJ P I ops o E p∧(∀d,o.dst=some d→d<n)∧Ti P n I ops c r (upd o p E) K
theorem Ti.op {ops:Array Oper} {o:Oper} {r:List Oper} {E:Env} {K:Ck→Env→Prop} {d c:Nat} {p:Pr} (hg:o.guard=none) (hd:o.dst=some d) (hn:d<n) (h:Ag P I o E p)
  (k:Ti P n I ops c r ((d,p)::E) K):Ti P n I ops (c+1) (o::r) E K:=
 ⟨p,by unfold kJ;rw [hg];exact h,fun d' hd'=>by rw [hd] at hd';cases hd';exact hn,by unfold upd;rw [hd];exact k⟩
theorem Ti.turn {ops:Array Oper} {o:Oper} {r:List Oper} {E:Env} {K:Ck→Env→Prop} {d:Nat} {p:Pr} (I':Ck) (hd:o.dst=some d) (hn:d<n) (h:lV P n I I' o E p)
  (k:Ch P n I' ops r ((d,p)::E) (K I')):Ti P n I ops 0 (o::r) E K:=
 ⟨p,I',h,fun d' hd'=>by rw [hd] at hd';cases hd';exact hn,by unfold upd;rw [hd];exact k⟩
def lW (P:Program) (f:FuncId) (args:List Pr) (pre:List At) (res:Pr) (post:List At):Prop:=Fj (α:=Unit) P f args pre (fun _=>True) (fun _=>res) (fun _=>post)
section
variable {M0:Av} {w0:World} {S:Nat→Prop} {rs:List At} {E:Env} {o:Oper} {g:Func} {M1:Av} {w1:World}
theorem lW.of {f : FuncId} {c : Code} {ps : List Pr} {pre post : List At} {res : Pr} (hf : P.funcs[f]? = some g) (hb : g.body = some c) (hname : (g.name == "runtime.NumGoroutine") = false) (hlen : ps.length ≤ g.ntmps)
  (h:∀M0 w0 S rs M1 w1,Tr (YT P) g.ntmps (Lt 0 ps) (Hp M0 w0 S (pre++Al M1 w1::rs)) c (bodyPost P g (Of M0 w0 S rs M1 w1 (fun _:Unit=>True) (fun _=>res) (fun _=>post)))):lW P f ps pre res post:=
 Fj.of hf hb hname hlen h
theorem Bj.pure {f:FuncId} {args:List Pr} {res:Pr} {R':Value→At} (h:Bj P f args res Bu R'):BG P f args res:=by
 refine ⟨h.1,fun M w vs hb hv=> ?_⟩
 refine (h.2 M w FO [] M w vs ((A9.begin hb).Ji (r:=Bu) rfl trivial) hv).mono ?_
 rintro e w' ⟨v,M',rfl,h2,h3,h4⟩
 exact ⟨v,rfl,res.st _ _ _ _ _ (Ext.less h4.m) h2,h4.below⟩
theorem sZ {t e T:TypeId} {x:Operand} {sz j:Nat} {rows:List (List Pr)} {v:Value} (ho:o.op= .call { callee:= .builtin .len,args:= #[x],argTypes:= #[t] }) (ht:P.underlying t=some (.slice e)) (hx:VL E x (is v)):
  Lu P M0 w0 S j (SR.c (Bs T sz rows v)) o E (int ((rows.length:Nat):Int)):=by
 intro M w a rs he hI hj
 have h1:a.eval x=v:=hx.ev he Dj
 have hj':rs[j]? =some (Bs T sz rows v):=hj
 have hrun:∃A c,v= .slice A rows.length c:=by
  rcases (hI.hold _ (List.mem_of_getElem? hj')).1 with ⟨rfl,A,hv⟩|⟨b,cap,spare,hv,_⟩
  · exact ⟨_,_,hv⟩
  · exact ⟨_,_,hv⟩
 obtain ⟨A,c,hv⟩:=hrun
 have:(execOp a.eval o).run P w= .ok (.value (.int .i64 ((rows.length:Nat):Int))) w:=by
  simp [execOp,ho,resolve,invoke,builtin,Builtin.len_,h1,hv,run_underlying ht,goInt]
 rw [this]
 exact ⟨rfl,Below.refl _ _⟩
end
end
section
variable {P:Program} {L:Lg P} {n:Fm} {fz:Nat} {E:Env} {M0:Av} {w0:World} {S:Nat→Prop} {rs:List At} {o:Oper}
def ABX (b off m:Nat):Pr where
 h _ _ u:=∃o c,u= .slice (some ⟨b,o,none⟩) m c∧(0<m→o=off)
 st _M _w _M' _w' _v _ h:=h
instance zX (b off m:Nat):One (ABX b off m):=⟨by rintro M w u ⟨o,c,rfl,_⟩;exact ⟨rfl,rfl⟩⟩
theorem Mx {I:Ck} {t e:TypeId} {x y:Operand} {sz sz1 sz2:Nat} (ho:o.op= .call { callee:= .builtin .append,args:= #[x,y],argTypes:= #[t,t] }) (ht:P.underlying t=some (.slice e)) (hz:BB P e=some sz) (hx:VL E x (full sz1 [])) (hy:VL E y (slice sz2 [])):Ag P I o E (full sz []):=
 Ag.same fun M w a he _=>by
  obtain ⟨_,A,h1⟩:=hx.ev he Dj
  obtain ⟨A',c',h2,_⟩:=hy.ev he Dj
  simp only [List.length_nil] at h1 h2
  refine ⟨.slice A 0 0,?_,gE sz A M w⟩
  have hrun:=Gj (P:=P) (ty:=o.type) (A:=A) (A':=A') (n:=0) (c:=0) (c':=c') ht hz (Nat.le_refl _) w
  simp [execOp,ho,resolve,invoke,builtin,h1,h2,hrun]
end
section
variable {P:Program} {L:Lg P} {n:Fm} {fz:Nat} {E:Env} {M0:Av} {w0:World} {S:Nat→Prop} {rs:List At} {o:Oper}
end
section
variable {P:Program} {L:Lg P} {n:Fm} {fz:Nat} {E:Env} {M0:Av} {w0:World} {S:Nat→Prop} {rs:List At}
theorem St.FA {i j k sz b:Nat} {new:Bool} {T e:TypeId} {ps:List Pr} {rows:List (List Pr)} {v:Value} {p:Pr} (hi:rs[i]? =some (AF new b T ps)) (hj:rs[j]? =some (Bs e sz rows v)) (hij:j≠i) (hk:ps[k]? =some p) (hp:Pr.le p (is v)) (hl:∀r∈rows,r.length=sz) {a:Act} {w:World} (h:St n E (Hp M0 w0 S rs) a w):
  St n E (Hp M0 w0 S ((rs.set j Bu).set i (AF new b T (ps.set k (slice sz rows))))) a w:=by
 obtain ⟨M,h1,h2,h3,h4⟩:=h
 have h4:A9 M0 w0 S rs M w:=h4
 have hi':(rs.set j (Bs e sz rows v))[i]? =some (AF new b T ps):=by rw [List.getElem?_set_ne hij];exact hi
 obtain ⟨M',g1,g2,g3⟩:=h4.xh hj hl
 have gi:(rs.set j Bu)[i]? =some (AF new b T ps):=by rw [List.getElem?_set_ne hij];exact hi
 refine ⟨M',h1,h2,fun s q hq=>q.st _ _ _ _ _ g1 (h3 s q hq),g2.C4 gi rfl rfl ?_⟩
 obtain ⟨c1,cs,c2,c3,c4⟩:=(g2.hold _ (List.mem_of_getElem? gi)).1
 exact ⟨c1,cs,c2,c3.set hk (fun u hu=>by rw [show u=v from hp _ _ _ hu];exact g3),c4⟩
theorem Tr.FA {Q:Exit→Act→World→Prop} {c:Code} (i j k:Nat) {sz b:Nat} {new:Bool} {T e:TypeId} {ps:List Pr} {rows:List (List Pr)} {v:Value} {p:Pr} (hi:rs[i]? =some (AF new b T ps)) (hj:rs[j]? =some (Bs e sz rows v)) (hij:j≠i) (hk:ps[k]? =some p) (hp:Pr.le p (is v)) (hl:∀r∈rows,r.length=sz)
  (kk:Tr L n E (Hp M0 w0 S ((rs.set j Bu).set i (AF new b T (ps.set k (slice sz rows))))) c Q):Tr L n E (Hp M0 w0 S rs) c Q:=Tr.conv (fun _ _ hs=>hs.FA hi hj hij hk hp hl) kk
end
theorem sj {β:Type} {f:β→List Pr} {l:List β} {k q m:Nat} {x:β} {qs:List Pr} (h:l[k]? =some x) (hq:(f x).take q++qs++(f x).drop (q+m)=f x):(l.map f).set k ((f x).take q++qs++(f x).drop (q+m))=l.map f:=by
 rw [hq]
 refine List.ext_getElem? fun i=> ?_
 rw [List.getElem?_set]
 by_cases hi:k=i
 ·
  subst hi
  rw [if_pos rfl,List.getElem?_map,h]
  have:=BM h
  rw [if_pos (by rw [List.length_map];exact this)];rfl
 · rw [if_neg hi]
theorem lX {β:Type} {f:β→List Pr} {l:List β} {k q m:Nat} {x:β} {qs:List Pr} (h:l[k]? =some x) (hq:(f x).take q++qs++(f x).drop (q+m)=f x):(l.map f).set ((k:Nat):Int).toNat ((f x).take q++qs++(f x).drop (q+m))=l.map f:=by
 rw [Int.toNat_natCast];exact sj h hq
section
variable {P:Program} {L:Lg P} {n:Fm} {fz:Nat} {E:Env} {M0:Av} {w0:World} {S:Nat→Prop} {rs:List At} {o:Oper} {g:Func} {M1:Av} {w1:World}
theorem Row.hd {M:Av} {w:World} {ad:Addr} {p q:Pr} {ps:List Pr} (h:Row M w ad 0 (p::ps)) (hq:∀u,p.h M w u→q.h M w u):Row M w ad 0 (q::ps):=by
 intro j r hr
 cases j with
 |zero=>
  simp at hr;subst hr
  obtain ⟨u,h1,h2,h3,h4⟩:=h 0 p rfl
  exact ⟨u,h1,h2,h3,hq u h4⟩
 |succ j=>exact h (j+1) r (by simpa using hr)
theorem TO.re {Q:Exit→Act→World→Prop} {ops:Array Oper} {l:List Oper} {I:Ck} (s:Nat) {q:Pr} (p:Pr) (hs:E.lookup s=some q) (hl:Pr.le q p) (k:TO P n ops l ((s,p)::E) I Q):TO P n ops l E I Q:=by
 intro m hm a w hst
 refine k m hm a w ?_
 obtain ⟨M,h1,h2,he,h4⟩:=hst
 refine ⟨M,h1,h2,fun s' r hr=> ?_,h4⟩
 simp only [List.lookup] at hr
 split at hr
 ·
  rename_i e1
  have:s'=s:=by simpa using e1
  subst this
  simp only [Option.some.injEq] at hr
  subst hr
  exact hl _ _ _ (he _ _ hs)
 · exact he _ _ hr
theorem Fin.L3 {Q:Exit→Act→World→Prop} {x:Exit} {r r':At} (k:Fin n E (Hp M0 w0 S (r'::r::rs)) Q x):Fin n E (Hp M0 w0 S (r::r'::rs)) Q x:=
 Fin.conv (fun _ _ ⟨M,h1,h2,h3,h4⟩=>⟨M,h1,h2,h3,A9.perm (List.Perm.swap _ _ _) h4⟩) k
def Nx (P:Program) (f:FuncId) (args:List Pr) (res:Value→Pr) (post:Value→List At):Prop:=Fj (α:=Value) P f args [] (fun _=>True) res post
theorem Nx.of {f : FuncId} {c : Code} {ps : List Pr} {res : Value → Pr} {post : Value → List At} (hf : P.funcs[f]? = some g) (hb : g.body = some c) (hname : (g.name == "runtime.NumGoroutine") = false) (hlen : ps.length ≤ g.ntmps)
  (h:∀M0 w0 S rs M1 w1,Tr (YT P) g.ntmps (Lt 0 ps) (Hp M0 w0 S (Al M1 w1::rs)) c (bodyPost P g (Of M0 w0 S rs M1 w1 (fun _:Value=>True) res post))):Nx P f ps res post:=
 Fj.of hf hb hname hlen h
theorem Fin.xj {rv:ResultVar} {q:Pr} {res:Value→Pr} {post:Value→List At} {rs':List At} (v:Value) (dr:List At) (hr:g.results= #[rv]) (h:AM P E rs' rv q) (hl:Pr.le q (res v)) (hp:rs'.Perm (dr++(post v++Al M1 w1::rs))):
  Fin ⟨fz,[]⟩ E (Hp M0 w0 S rs') (bodyPost P g (Of M0 w0 S rs M1 w1 (fun _:Value=>True) res post)) .ret:=by
 rintro a w ⟨M,_,hd,he,hi⟩
 have hi:A9 M0 w0 S rs' M w:=hi
 obtain ⟨u,hu,hp'⟩:=h M w a he (fun q hq=>(hi.hold q hq).1)
 obtain ⟨h1,h2⟩:=Fl (A9.lT (A9.perm hp hi))
 exact ⟨hd,u,results1 hr hu,_,M,v,rfl,trivial,hl _ _ _ hp',h1,h2⟩
theorem TO.lY {Q:Exit→Act→World→Prop} {ops:Array Oper} {r:List Oper} {f:FuncId} {xs:Array Operand} {ts:Array TypeId} {ps:List Pr} {res:Value→Pr} {post:Value→List At} {d:Nat} (hg:o.guard=none) (hd:o.dst=some d) (hn:d<n) (ho:o.op= .call { callee:= .value (.func f),args:=xs,argTypes:=ts }) (hf:Nx P f ps res post)
  (hv:Hz E xs.toList ps) (k:∀v,TO P n ops r ((d,res v)::E) (Hp M0 w0 S (post v++rs)) Q):TO P n ops (o::r) E (Hp M0 w0 S rs) Q:=
 TO.RN rs hg hd hn ho hf hv (List.Perm.refl _) fun v _=>k v
end
end Cp
