/-
  Part 2 of the texts that prove this claim, merged.
-/
import Derived.ChangeArms
import Derived.OpenShut
import Derived.ChangeSame
import Derived.RowKit
import Derived.ProofKit
import Derived.Laws.MakeOwn
import Derived.Test.YtmocaapoeefgkaaGreatDoorProg
import Derived.KernelRfl
import Derived.Lib.ConvBytes
import Derived.Lib.Bytealg
import Derived.Laws.StructEq
import Derived.Laws.Externs
import Derived.Lib.AtoiErrMem
import Derived.Laws.IdiomRangeMap
import Derived.Sort.LotA
import Derived.Sort.LotB
import Derived.Sort.LotC
import Derived.Lib.AppendZeros
import Derived.Lib.AppendZerosOnto
import Derived.Test.YtmocaapoeefgkaaGreatDoorRcFP1
set_option linter.all false
set_option maxRecDepth 40000
set_option maxHeartbeats 16000000
namespace Cp
open Go Go.RowKit Go.Great Go.ChangeShapes Go.WideShapes
def noM:Av:=fun _ _=>False
theorem w_ (w:World):Bd noM w:=fun _ _ h=>h.elim
def Mn (P:Program) (t:TypeId) {α:Type} (ok:α→Prop) (f:α→List Pr):Prop:=
 ∀(H:Type) (enc:TypeId×Value→H) (w:World) (fuel:Nat) (cs:List Value) (x:DataW H×List MemPlace),DataW.trod enc P w 0 (fun _=>true) true fuel t cs=some x→∃a,ok a∧HL noM w (f a) cs∧∀c∈cs,c.oneCell'=true
theorem Mn.map {P:Program} {t:TypeId} {α β:Type} {ok:α→Prop} {f:α→List Pr} {ok':β→Prop} {f':β→List Pr} (h:Mn P t ok f) (g:α→β) (h1:∀a,ok a→ok' (g a)) (h2:∀a,f' (g a)=f a):Mn P t ok' f':=by
 intro H enc w fuel cs x hx
 obtain ⟨a,h3,h4,h5⟩:=h H enc w fuel cs x hx
 exact ⟨g a,h1 a h3,by rw [h2];exact h4,h5⟩
theorem fI {P:Program} {t:TypeId} {k:IntKind} (ht:P.underlying t=some (.int k)):Mn P t (fun n:Int=>(Lit.int k n).wf=true) (fun n=>[is (.int k n)]):=by
 intro H enc w fuel cs x hx
 obtain ⟨n,rfl,_,hw⟩:=DataW.trod_int ht hx
 exact ⟨n,hw,⟨rfl,trivial⟩,by simp [Value.oneCell']⟩
theorem HL.len {M:Av} {w:World}:∀{ps:List Pr} {vs:List Value},HL M w ps vs→ps.length=vs.length
 |[],[],_=>rfl
 |p::ps,v::vs,h=>by simp [HL.len h.2]
 |[],_::_,h=>h.elim
 |_::_,[],h=>h.elim
theorem HL.nth {M:Av} {w:World}:∀{ps:List Pr} {vs:List Value} (j:Nat) (p:Pr),HL M w ps vs→ps[j]? =some p→∃v,vs[j]? =some v∧p.h M w v
 |p::ps,v::vs,0,q,h,hj=>by simp at hj;subst hj;exact ⟨v,rfl,h.1⟩
 |p::ps,v::vs,j+1,q,h,hj=>by simpa using HL.nth j q h.2 GK
 |[],[],_,_,_,hj=>by simp at hj
 |[],_::_,_,_,h,_=>h.elim
 |_::_,[],_,_,h,_=>h.elim
theorem RA {H:Type} {enc:TypeId×Value→H} {P:Program} {w:World} {e:TypeId} {α:Type} {ok:α→Prop} {f:α→List Pr} (he:Mn P e ok f) {sz:Nat} (hc:P.cellsOf e=sz) {a:Addr} {m:Nat}:
  ∀(len:Nat),(∀i,i<len→∃y,(w.cells? 0 (a.add (i*sz)) sz).bind (DataW.trod enc P w 0 (fun _=>true) true m e)=some y)→
   ∃l:List α,l.length=len∧(∀z∈l,ok z)∧∀(i:Nat) z,l[i]? =some z→(f z).length=sz∧Row noM w a (i*sz) (f z)
 |0,_=>⟨[],rfl,by simp,by simp⟩
 |len+1,h=>by
  obtain ⟨l,h1,h2,h3⟩:=RA he hc len (fun i hi=>h i AA)
  obtain ⟨y,hy⟩:=h len AA
  obtain ⟨cs,hcs,hy⟩:=Option.bind_eq_some_iff.1 hy
  obtain ⟨z,hz,hl,h1c⟩:=he H enc w m cs y hy
  obtain ⟨_,hlen,hat⟩:=World.cells?_some hcs
  refine ⟨l++[z],by simp [h1],?_,fun i u hu=> ?_⟩
  ·
   intro u hu
   rcases List.mem_append.1 hu with hu|hu
   · exact h2 u hu
   · rw [List.mem_singleton.1 hu];exact hz
  ·
   rcases Nat.lt_trichotomy i len with hi|hi|hi
   ·
    rw [List.getElem?_append_left AA] at hu
    exact h3 i u hu
   ·
    subst hi
    rw [List.getElem?_append_right AA,h1] at hu
    simp at hu;subst hu
    have hfl:(f z).length=sz:=by rw [hl.len,hlen]
    refine ⟨hfl,fun j p hp=> ?_⟩
    obtain ⟨v,hv,kC⟩:=hl.nth j p hp
    have hj:j<sz:=by
     rcases Nat.lt_or_ge j (f z).length with h'|h'
     · omega
     · rw [List.getElem?_eq_none h'] at hp;cases hp
    refine ⟨v,?_,fun hf=>hf,h1c v (List.mem_of_getElem? hv),kC⟩
    rw [←hv,←hat j hj]
    rw [add_add]
   · rw [List.getElem?_eq_none (by simp [h1];omega)] at hu;cases hu
theorem Wd {P:Program} {t e:TypeId} {α:Type} {ok:α→Prop} {f:α→List Pr} {sz:Nat} (ht:P.underlying t=some (.slice e)) (hc:P.cellsOf e=sz) (he:Mn P e ok f):
  Mn P t (fun l:List α=>(∀z∈l,ok z)∧l.length≤maxLen) (fun l=>[slice sz (l.map f)]):=by
 intro H enc w fuel cs x hx
 rcases DataW.trod_slice ht hx with ⟨rfl,_⟩|⟨a,len,cap,elems,rest,n,rfl,rfl,_,_,hl,hm,hel,hat,_⟩
 · exact ⟨[],⟨by simp,by simp⟩,⟨⟨none,0,rfl,by simp,by simp,fun _=>rfl,by simp⟩,trivial⟩,by simp [Value.oneCell']⟩
 ·
  obtain ⟨l,h1,h2,h3⟩:=RA (H:=H) (enc:=enc) (w:=w) (a:=a) (m:=n) he hc len (fun i hi=>by
   have:=hat i hi
   rw [hc] at this
   rw [this,List.getElem?_eq_getElem AA]
   exact ⟨_,rfl⟩)
  refine ⟨l,⟨h2,by omega⟩,⟨⟨some a,cap,by simp [h1],by simp;omega,hm,by simp,fun i row hr=> ?_⟩,trivial⟩,by simp [Value.oneCell']⟩
  rw [List.getElem?_map] at hr
  cases hz:l[i]? with
  |none=>rw [hz] at hr;cases hr
  |some z=>
   rw [hz] at hr;simp at hr;subst hr
   obtain ⟨h4,h5⟩:=h3 i z hz
   exact ⟨h4,a,rfl,h5⟩
theorem rJ {H:Type} {enc:TypeId×Value→H} {P:Program} {w:World} {t:TypeId} {α:Type} {ok:α→Prop} {p:α→Pr} (ho:Mn P t ok (fun a=>[p a])) {v:Value} {d:DataW H} {ps:List MemPlace} (h:DataW.Trod enc P w 0 (fun _=>true) true t v d ps) (hv:v.cells= #[v]):
  ∃a,ok a∧(p a).h noM w v:=by
 obtain ⟨fuel,hf⟩:=h
 obtain ⟨a,h1,h2,_⟩:=ho _ _ _ _ _ _ hf
 rw [hv] at h2
 exact ⟨a,h1,h2.1⟩
theorem LS {H:Type} {enc:TypeId×Value→H} {P:Program} (hl:laidOutB P=true) {W W':World} (hb:Below W.heap.size W W'):
  ∀{ts:List TypeId} {vs:List Value} {ds:List (DataW H)} {ps:List MemPlace},ts.all (fun t=>P.readableRec t&&decide (t<P.types.size))=true→DataW.TrodAll enc P W 0 (fun _=>true) true ts vs ds ps→(∀x∈ps,x.block<W.heap.size)→
   DataW.TrodAll enc P W' 0 (fun b=>decide (b<W.heap.size)) true ts vs ds ps
 |[],vs,ds,ps,_,h,_=>by
  obtain ⟨rfl,rfl,rfl⟩:=trodAll_nil h
  rfl
 |t::ts,vs,ds,ps,hr,h,hlt=>by
  obtain ⟨v,vs',d,ds',p,q,rfl,rfl,rfl,h1,h2⟩:=trodAll_cons h
  simp only [List.all_cons,Bool.and_eq_true,decide_eq_true_eq] at hr
  exact ⟨p,q,Below.trod hl hr.1.1 hr.1.2 h1 hb (fun x hx=>hlt x (List.mem_append_left _ hx)),LS hl hb (by simpa using hr.2) h2 (fun x hx=>hlt x (List.mem_append_right _ hx)),rfl⟩
theorem kR {H:Type} {enc:TypeId×Value→H} {P:Program} {fn:Func} {s:ChangeSpec} {W W':World} {args:Array Value} {ds gs:List (DataW H)} {before p:List MemPlace} {tb:TypeId} (hl:laidOutB P=true)
  (hr:fn.params.toList.all (fun t=>P.readableRec t&&decide (t<P.types.size))=true) (hres:fn.resultTypes= #[tb]) (hb:P.underlying tb=some .bool) (hs:s.vars=[])
  (hA:DataW.TrodAll enc P W 0 (fun _=>true) true fn.params.toList args.toList ds p) (hp:before=p) (hW:DataW.Whole enc P fn.params.toList s.vars false W args.toList ds gs before)
  (hf:s.fn H (ds++gs)={ results:=[.lit (.bool true)],args:=ds }) (kS:Below W.heap.size W W'):s.post enc P fn false true false false W args (.bool true) W':=by
 subst hp
 refine ⟨ds,gs,before,[],before,[],hW,?_,?_,?_,kS.frame _,fun h=>by cases h⟩
 · rw [hf,hres];exact trodAll_mk1 (shut_bool hb _)
 · rw [hf];exact LS hl kS hr hA (fun x hx=>by simpa using hW.lt x hx)
 · rw [hf,hs];rfl
end Cp
namespace Cp
open Go Go.RowKit Go.Great
section
variable {P:Program} {L:Lg P} {n:Fm} {fz:Nat} {E:Env} {I:Ce} {Q:Exit→Act→World→Prop}
theorem Tr.Mo {α0:Type} (K:Env) (hK:CV E K) (F:α0→Env) (Ii:α0→Ce) (C:α0→Prop) (μ:α0→Nat) {c:Code} (Iq:α0)  (h0:C Iq) (hs:CV E (F Iq)) (hI:∀M w,I.h M w→(Ii Iq).h M w)
  (round:∀x0,C x0→Tr L n (F x0++K) (Ii x0) c (Exit.then (fun a w=>∃Dw,(C Dw∧μ Dw<μ x0)∧St n (F Dw++K) (Ii Dw) a w) Q)):Tr L n E I (.loop c) Q:=
 Tr.Mf K hK (fun y:α0=>F y) (fun y=>Ii y) (fun y=>C y) (fun y=>μ y) Iq h0 hs hI fun y hy=>
  Tr.post (round y hy) fun e a w h=>by
   cases e<;>first|exact h|(obtain ⟨Dw,h1,h2⟩:=h;exact ⟨Dw,h1,h2⟩)
theorem Fin.Mp {α0:Type} {E1:α0→Env} {I1:α0→Ce} {C:α0→Prop} (x0:α0)  (hC:C x0) (hs:CV E (E1 x0)) (hI:∀M w,I.h M w→(I1 x0).h M w):
  Fin n E I (Exit.then (fun a w=>∃Dw,C Dw∧St n (E1 Dw) (I1 Dw) a w) Q) .normal:=fun _ _ hst=>⟨x0,hC,hst.sub hs hI⟩
theorem Tr.We {α0:Type} (K:Env) (hK:CV E K) (F:α0→Value→Env) (Ii:α0→Value→Ce) (C:α0→Prop) (μ:α0→Nat) {c:Code} (Iq:α0) (Uw:Value) (h0:C Iq) (hs:CV E (F Iq Uw)) (hI:∀M w,I.h M w→(Ii Iq Uw).h M w)
  (round:∀x0 v0,C x0→Tr L n (F x0 v0++K) (Ii x0 v0) c (Exit.then (fun a w=>∃Dw Ir,(C Dw∧μ Dw<μ x0)∧St n (F Dw Ir++K) (Ii Dw Ir) a w) Q)):Tr L n E I (.loop c) Q:=
 Tr.Mf K hK (fun y:α0×Value=>F y.1 y.2) (fun y=>Ii y.1 y.2) (fun y=>C y.1) (fun y=>μ y.1) (Iq,Uw) h0 hs hI fun y hy=>
  Tr.post (round y.1 y.2 hy) fun e a w h=>by
   cases e<;>first|exact h|(obtain ⟨Dw,Ir,h1,h2⟩:=h;exact ⟨(Dw,Ir),h1,h2⟩)
theorem Fin.cB {α0:Type} {E1:α0→Value→Env} {I1:α0→Value→Ce} {C:α0→Prop} (x0:α0) (v0:Value) (hC:C x0) (hs:CV E (E1 x0 v0)) (hI:∀M w,I.h M w→(I1 x0 v0).h M w):
  Fin n E I (Exit.then (fun a w=>∃Dw Ir,C Dw∧St n (E1 Dw Ir) (I1 Dw Ir) a w) Q) .normal:=fun _ _ hst=>⟨x0,v0,hC,hst.sub hs hI⟩
theorem Tr.Co {α0 α1:Type} (K:Env) (hK:CV E K) (F:α0→α1→Env) (Ii:α0→α1→Ce) (C:α0→α1→Prop) (μ:α0→α1→Nat) {c:Code} (Iq:α0) (Mq:α1)  (h0:C Iq Mq) (hs:CV E (F Iq Mq)) (hI:∀M w,I.h M w→(Ii Iq Mq).h M w)
  (round:∀x0 x1,C x0 x1→Tr L n (F x0 x1++K) (Ii x0 x1) c (Exit.then (fun a w=>∃Dw E8,(C Dw E8∧μ Dw E8<μ x0 x1)∧St n (F Dw E8++K) (Ii Dw E8) a w) Q)):Tr L n E I (.loop c) Q:=
 Tr.Mf K hK (fun y:α0×α1=>F y.1 y.2) (fun y=>Ii y.1 y.2) (fun y=>C y.1 y.2) (fun y=>μ y.1 y.2) (Iq,Mq) h0 hs hI fun y hy=>
  Tr.post (round y.1 y.2 hy) fun e a w h=>by
   cases e<;>first|exact h|(obtain ⟨Dw,E8,h1,h2⟩:=h;exact ⟨(Dw,E8),h1,h2⟩)
theorem Fin.Cm {α0 α1:Type} {E1:α0→α1→Env} {I1:α0→α1→Ce} {C:α0→α1→Prop} (x0:α0) (x1:α1)  (hC:C x0 x1) (hs:CV E (E1 x0 x1)) (hI:∀M w,I.h M w→(I1 x0 x1).h M w):
  Fin n E I (Exit.then (fun a w=>∃Dw E8,C Dw E8∧St n (E1 Dw E8) (I1 Dw E8) a w) Q) .normal:=fun _ _ hst=>⟨x0,x1,hC,hst.sub hs hI⟩
theorem Tr.C7 {α0 α1:Type} (K:Env) (hK:CV E K) (F:α0→α1→Value→Env) (Ii:α0→α1→Value→Ce) (C:α0→α1→Prop) (μ:α0→α1→Nat) {c:Code} (Iq:α0) (Mq:α1) (Uw:Value) (h0:C Iq Mq) (hs:CV E (F Iq Mq Uw)) (hI:∀M w,I.h M w→(Ii Iq Mq Uw).h M w)
  (round:∀x0 x1 v0,C x0 x1→Tr L n (F x0 x1 v0++K) (Ii x0 x1 v0) c (Exit.then (fun a w=>∃Dw E8 Ir,(C Dw E8∧μ Dw E8<μ x0 x1)∧St n (F Dw E8 Ir++K) (Ii Dw E8 Ir) a w) Q)):Tr L n E I (.loop c) Q:=
 Tr.Mf K hK (fun y:α0×α1×Value=>F y.1 y.2.1 y.2.2) (fun y=>Ii y.1 y.2.1 y.2.2) (fun y=>C y.1 y.2.1) (fun y=>μ y.1 y.2.1) (Iq,Mq,Uw) h0 hs hI fun y hy=>
  Tr.post (round y.1 y.2.1 y.2.2 hy) fun e a w h=>by
   cases e<;>first|exact h|(obtain ⟨Dw,E8,Ir,h1,h2⟩:=h;exact ⟨(Dw,E8,Ir),h1,h2⟩)
theorem Fin.Bl {α0 α1:Type} {E1:α0→α1→Value→Env} {I1:α0→α1→Value→Ce} {C:α0→α1→Prop} (x0:α0) (x1:α1) (v0:Value) (hC:C x0 x1) (hs:CV E (E1 x0 x1 v0)) (hI:∀M w,I.h M w→(I1 x0 x1 v0).h M w):
  Fin n E I (Exit.then (fun a w=>∃Dw E8 Ir,C Dw E8∧St n (E1 Dw E8 Ir) (I1 Dw E8 Ir) a w) Q) .normal:=fun _ _ hst=>⟨x0,x1,v0,hC,hst.sub hs hI⟩
theorem Tr.Jz {α0 α1 α2:Type} (K:Env) (hK:CV E K) (F:α0→α1→α2→Env) (Ii:α0→α1→α2→Ce) (C:α0→α1→α2→Prop) (μ:α0→α1→α2→Nat) {c:Code} (Iq:α0) (Mq:α1) (Ux:α2)  (h0:C Iq Mq Ux) (hs:CV E (F Iq Mq Ux)) (hI:∀M w,I.h M w→(Ii Iq Mq Ux).h M w)
  (round:∀x0 x1 x2,C x0 x1 x2→Tr L n (F x0 x1 x2++K) (Ii x0 x1 x2) c (Exit.then (fun a w=>∃Dw E8 Hr,(C Dw E8 Hr∧μ Dw E8 Hr<μ x0 x1 x2)∧St n (F Dw E8 Hr++K) (Ii Dw E8 Hr) a w) Q)):Tr L n E I (.loop c) Q:=
 Tr.Mf K hK (fun y:α0×α1×α2=>F y.1 y.2.1 y.2.2) (fun y=>Ii y.1 y.2.1 y.2.2) (fun y=>C y.1 y.2.1 y.2.2) (fun y=>μ y.1 y.2.1 y.2.2) (Iq,Mq,Ux) h0 hs hI fun y hy=>
  Tr.post (round y.1 y.2.1 y.2.2 hy) fun e a w h=>by
   cases e<;>first|exact h|(obtain ⟨Dw,E8,Hr,h1,h2⟩:=h;exact ⟨(Dw,E8,Hr),h1,h2⟩)
theorem Fin.EZ {α0 α1 α2:Type} {E1:α0→α1→α2→Env} {I1:α0→α1→α2→Ce} {C:α0→α1→α2→Prop} (x0:α0) (x1:α1) (x2:α2)  (hC:C x0 x1 x2) (hs:CV E (E1 x0 x1 x2)) (hI:∀M w,I.h M w→(I1 x0 x1 x2).h M w):
  Fin n E I (Exit.then (fun a w=>∃Dw E8 Hr,C Dw E8 Hr∧St n (E1 Dw E8 Hr) (I1 Dw E8 Hr) a w) Q) .normal:=fun _ _ hst=>⟨x0,x1,x2,hC,hst.sub hs hI⟩
theorem Tr.Fg {α0 α1 α2:Type} (K:Env) (hK:CV E K) (F:α0→α1→α2→Value→Env) (Ii:α0→α1→α2→Value→Ce) (C:α0→α1→α2→Prop) (μ:α0→α1→α2→Nat) {c:Code} (Iq:α0) (Mq:α1) (Ux:α2) (Uw:Value) (h0:C Iq Mq Ux) (hs:CV E (F Iq Mq Ux Uw)) (hI:∀M w,I.h M w→(Ii Iq Mq Ux Uw).h M w)
  (round:∀x0 x1 x2 v0,C x0 x1 x2→Tr L n (F x0 x1 x2 v0++K) (Ii x0 x1 x2 v0) c (Exit.then (fun a w=>∃Dw E8 Hr Ir,(C Dw E8 Hr∧μ Dw E8 Hr<μ x0 x1 x2)∧St n (F Dw E8 Hr Ir++K) (Ii Dw E8 Hr Ir) a w) Q)):Tr L n E I (.loop c) Q:=
 Tr.Mf K hK (fun y:α0×α1×α2×Value=>F y.1 y.2.1 y.2.2.1 y.2.2.2) (fun y=>Ii y.1 y.2.1 y.2.2.1 y.2.2.2) (fun y=>C y.1 y.2.1 y.2.2.1) (fun y=>μ y.1 y.2.1 y.2.2.1) (Iq,Mq,Ux,Uw) h0 hs hI fun y hy=>
  Tr.post (round y.1 y.2.1 y.2.2.1 y.2.2.2 hy) fun e a w h=>by
   cases e<;>first|exact h|(obtain ⟨Dw,E8,Hr,Ir,h1,h2⟩:=h;exact ⟨(Dw,E8,Hr,Ir),h1,h2⟩)
theorem Fin.EG {α0 α1 α2:Type} {E1:α0→α1→α2→Value→Env} {I1:α0→α1→α2→Value→Ce} {C:α0→α1→α2→Prop} (x0:α0) (x1:α1) (x2:α2) (v0:Value) (hC:C x0 x1 x2) (hs:CV E (E1 x0 x1 x2 v0)) (hI:∀M w,I.h M w→(I1 x0 x1 x2 v0).h M w):
  Fin n E I (Exit.then (fun a w=>∃Dw E8 Hr Ir,C Dw E8 Hr∧St n (E1 Dw E8 Hr Ir) (I1 Dw E8 Hr Ir) a w) Q) .normal:=fun _ _ hst=>⟨x0,x1,x2,v0,hC,hst.sub hs hI⟩
theorem Tr.kU {α0 α1 α2 α3:Type} (K:Env) (hK:CV E K) (F:α0→α1→α2→α3→Value→Env) (Ii:α0→α1→α2→α3→Value→Ce) (C:α0→α1→α2→α3→Prop) (μ:α0→α1→α2→α3→Nat) {c:Code} (Iq:α0) (Mq:α1) (Ux:α2) (x3s:α3) (Uw:Value) (h0:C Iq Mq Ux x3s) (hs:CV E (F Iq Mq Ux x3s Uw)) (hI:∀M w,I.h M w→(Ii Iq Mq Ux x3s Uw).h M w)
  (round:∀x0 x1 x2 x3 v0,C x0 x1 x2 x3→Tr L n (F x0 x1 x2 x3 v0++K) (Ii x0 x1 x2 x3 v0) c (Exit.then (fun a w=>∃Dw E8 Hr Sm Ir,(C Dw E8 Hr Sm∧μ Dw E8 Hr Sm<μ x0 x1 x2 x3)∧St n (F Dw E8 Hr Sm Ir++K) (Ii Dw E8 Hr Sm Ir) a w) Q)):Tr L n E I (.loop c) Q:=
 Tr.Mf K hK (fun y:α0×α1×α2×α3×Value=>F y.1 y.2.1 y.2.2.1 y.2.2.2.1 y.2.2.2.2) (fun y=>Ii y.1 y.2.1 y.2.2.1 y.2.2.2.1 y.2.2.2.2) (fun y=>C y.1 y.2.1 y.2.2.1 y.2.2.2.1) (fun y=>μ y.1 y.2.1 y.2.2.1 y.2.2.2.1) (Iq,Mq,Ux,x3s,Uw) h0 hs hI fun y hy=>
  Tr.post (round y.1 y.2.1 y.2.2.1 y.2.2.2.1 y.2.2.2.2 hy) fun e a w h=>by
   cases e<;>first|exact h|(obtain ⟨Dw,E8,Hr,Sm,Ir,h1,h2⟩:=h;exact ⟨(Dw,E8,Hr,Sm,Ir),h1,h2⟩)
theorem Fin.rK {α0 α1 α2 α3:Type} {E1:α0→α1→α2→α3→Value→Env} {I1:α0→α1→α2→α3→Value→Ce} {C:α0→α1→α2→α3→Prop} (x0:α0) (x1:α1) (x2:α2) (x3:α3) (v0:Value) (hC:C x0 x1 x2 x3) (hs:CV E (E1 x0 x1 x2 x3 v0)) (hI:∀M w,I.h M w→(I1 x0 x1 x2 x3 v0).h M w):
  Fin n E I (Exit.then (fun a w=>∃Dw E8 Hr Sm Ir,C Dw E8 Hr Sm∧St n (E1 Dw E8 Hr Sm Ir) (I1 Dw E8 Hr Sm Ir) a w) Q) .normal:=fun _ _ hst=>⟨x0,x1,x2,x3,v0,hC,hst.sub hs hI⟩
theorem Tr.kV {α0 α1 α2 α3:Type} (K:Env) (hK:CV E K) (F:α0→α1→α2→α3→Value→Value→Env) (Ii:α0→α1→α2→α3→Value→Value→Ce) (C:α0→α1→α2→α3→Prop) (μ:α0→α1→α2→α3→Nat) {c:Code} (Iq:α0) (Mq:α1) (Ux:α2) (x3s:α3) (Uw:Value) (v1s:Value) (h0:C Iq Mq Ux x3s) (hs:CV E (F Iq Mq Ux x3s Uw v1s)) (hI:∀M w,I.h M w→(Ii Iq Mq Ux x3s Uw v1s).h M w)
  (round:∀x0 x1 x2 x3 v0 v1,C x0 x1 x2 x3→Tr L n (F x0 x1 x2 x3 v0 v1++K) (Ii x0 x1 x2 x3 v0 v1) c (Exit.then (fun a w=>∃Dw E8 Hr Sm Ir v1',(C Dw E8 Hr Sm∧μ Dw E8 Hr Sm<μ x0 x1 x2 x3)∧St n (F Dw E8 Hr Sm Ir v1'++K) (Ii Dw E8 Hr Sm Ir v1') a w) Q)):Tr L n E I (.loop c) Q:=
 Tr.Mf K hK (fun y:α0×α1×α2×α3×Value×Value=>F y.1 y.2.1 y.2.2.1 y.2.2.2.1 y.2.2.2.2.1 y.2.2.2.2.2) (fun y=>Ii y.1 y.2.1 y.2.2.1 y.2.2.2.1 y.2.2.2.2.1 y.2.2.2.2.2) (fun y=>C y.1 y.2.1 y.2.2.1 y.2.2.2.1) (fun y=>μ y.1 y.2.1 y.2.2.1 y.2.2.2.1) (Iq,Mq,Ux,x3s,Uw,v1s) h0 hs hI fun y hy=>
  Tr.post (round y.1 y.2.1 y.2.2.1 y.2.2.2.1 y.2.2.2.2.1 y.2.2.2.2.2 hy) fun e a w h=>by
   cases e<;>first|exact h|(obtain ⟨Dw,E8,Hr,Sm,Ir,v1',h1,h2⟩:=h;exact ⟨(Dw,E8,Hr,Sm,Ir,v1'),h1,h2⟩)
theorem Fin.rL {α0 α1 α2 α3:Type} {E1:α0→α1→α2→α3→Value→Value→Env} {I1:α0→α1→α2→α3→Value→Value→Ce} {C:α0→α1→α2→α3→Prop} (x0:α0) (x1:α1) (x2:α2) (x3:α3) (v0:Value) (v1:Value) (hC:C x0 x1 x2 x3) (hs:CV E (E1 x0 x1 x2 x3 v0 v1)) (hI:∀M w,I.h M w→(I1 x0 x1 x2 x3 v0 v1).h M w):
  Fin n E I (Exit.then (fun a w=>∃Dw E8 Hr Sm Ir v1',C Dw E8 Hr Sm∧St n (E1 Dw E8 Hr Sm Ir v1') (I1 Dw E8 Hr Sm Ir v1') a w) Q) .normal:=fun _ _ hst=>⟨x0,x1,x2,x3,v0,v1,hC,hst.sub hs hI⟩
end
structure DS where
 l:List Int
 at_:Nat
 h:at_≤l.length
 h2:l.length≤1000000000
def DS.val (s:DS) (n:Int):Int:=match s.l[s.at_]? with|some x=>x % n|none=>0
def DS.Cd (s:DS):DS:=if h:s.at_<s.l.length then ⟨s.l,s.at_+1,h,s.h2⟩ else s
theorem DS.DD (s:DS) {n:Int} (hn:1≤n):0≤s.val n∧s.val n<n:=by
 unfold DS.val
 split
 · exact ⟨Int.emod_nonneg _ AA,Int.emod_lt_of_pos _ AA⟩
 · omega
theorem DS.rM {s:DS} (h:s.l.length≤s.at_) (n:Int):s.val n=0:=by
 unfold DS.val;rw [List.getElem?_eq_none h]
theorem DS.rN {s:DS} (h:s.l.length≤s.at_):s.Cd=s:=by
 unfold DS.Cd;rw [dif_neg AA]
theorem DS.xA {s:DS} {x:Int} (h:s.l[s.at_]? =some x) (n:Int):s.val n=x % n:=by
 unfold DS.val;rw [h]
theorem DS.xB {s:DS} (h:s.at_<s.l.length):s.Cd=⟨s.l,s.at_+1,h,s.h2⟩:=by
 unfold DS.Cd;rw [dif_pos h]
def N1 (s:DS):List Pr:=[slice 1 (s.l.map fun n=>[int n]),int ((s.at_:Nat):Int)]
def Wf (T:TypeId) (b:Nat) (s:DS):Ap:=AE true b T (N1 s)
def Is (T:TypeId) (b:Nat):Ap:=Mj true b T (fun _:DS=>True) N1
def DS.of (s:DS) (l:List Int):Int:=(l[(s.val l.length).toNat]?).getD 0
theorem DS.RB (s:DS) {l:List Int} (h:l≠[]):s.of l∈l:=by
 have h0:1≤(l.length:Int):=by
  have:=List.length_pos_iff.2 h
  omega
 have:=s.DD h0
 unfold DS.of
 rw [List.getElem?_eq_getElem AA]
 exact List.getElem_mem _
section
variable {P:Program} {L:Lg P} {n:Fm} {fz:Nat} {E:Env} {M0:Av} {w0:World} {S:Nat→Prop} {rs:List Ap}
theorem Tr.TR {Q:Exit→Act→World→Prop} {c:Code} (i:Nat) {T:TypeId} {b:Nat} (hi:rs[i]? =some (Is T b)) (k:∀s,Tr L n E (Hp M0 w0 S (rs.set i (Wf T b s))) c Q):Tr L n E (Hp M0 w0 S rs) c Q:=
 Tr.AA3 i hi fun s _=>k s
theorem Fin.TR {Q:Exit→Act→World→Prop} {e:Exit} (i:Nat) {T:TypeId} {b:Nat} (hi:rs[i]? =some (Is T b)) (k:∀s,Fin n E (Hp M0 w0 S (rs.set i (Wf T b s))) Q e):Fin n E (Hp M0 w0 S rs) Q e:=by
 rintro a w ⟨M,h1,h2,h3,h4⟩
 have h4:Az M0 w0 S rs M w:=h4
 obtain ⟨x,hx,hh⟩:=(h4.hold _ (List.mem_of_getElem? hi)).1
 exact k x a w ⟨M,h1,h2,h3,h4.CU hi rfl rfl hh⟩
theorem Fin.G5 {Q:Exit→Act→World→Prop} {e:Exit} (i:Nat) {T:TypeId} {b:Nat} (s:DS) {ps:List Pr} (hi:rs[i]? =some (AE true b T ps)) (hp:ps=N1 s) (k:Fin n E (Hp M0 w0 S (rs.set i (Is T b))) Q e):Fin n E (Hp M0 w0 S rs) Q e:=
 Fin.Nz i (fun _=>True) N1 s trivial hi hp k
theorem Tr.G5 {Q:Exit→Act→World→Prop} {c:Code} (i:Nat) {T:TypeId} {b:Nat} (s:DS) {ps:List Pr} (hi:rs[i]? =some (AE true b T ps)) (hp:ps=N1 s) (k:Tr L n E (Hp M0 w0 S (rs.set i (Is T b))) c Q):Tr L n E (Hp M0 w0 S rs) c Q:=
 Tr.Nz i (fun _=>True) N1 s trivial hi hp k
theorem TO.MN {ops:Array Oper} {l:List Oper} {Q:Exit→Act→World→Prop} (s j:Nat) {v:Value} {f:Value→Ap} (g:Nat→Ap) (hs:E.lookup s=some (Ac v (Cp.ex fun b=>ptr b 0))) (hi:rs[j]? =some (f v)) (hf:∀b,f (.pointer (some ⟨b,0,none⟩))=g b)
  (k:∀b,TO P n ops l ((s,ptr b 0)::E) (Hp M0 w0 S (rs.set j (g b))) Q):TO P n ops l E (Hp M0 w0 S rs) Q:=by
 intro k0 hl a w hst
 obtain ⟨M,h1,h2,he,h4⟩:=hst
 obtain ⟨h5,b,h6⟩:=he s _ hs
 have hv:v= .pointer (some ⟨b,0,none⟩):=by rw [←h5];exact h6
 have hj:rs.set j (g b)=rs:=by
  have hjl:j<rs.length:=by rcases Nat.lt_or_ge j rs.length with h|h;exact h;rw [List.getElem?_eq_none h] at hi;cases hi
  rw [←hf b,←hv]
  rw [List.getElem?_eq_getElem hjl] at hi
  simp at hi
  rw [←hi,List.set_getElem_self]
 refine k b k0 hl a w ⟨M,h1,h2,?_,by rw [hj];exact h4⟩
 intro t q hq
 simp only [List.lookup] at hq
 by_cases ht:t=s
 · exact Km
 · exact Nr
def G6 (r:ResultVar) (a:Act):Sem Value:=match r with| .tmp t=>pure (a.tmps.getD t undef)| .cell c t=>do loadVar t (←asAddr (a.tmps.getD c undef))
def AM (P:Program) (E:Env) (rs:List Ap) (r:ResultVar) (p:Pr):Prop:=∀(M:Av) (w:World) (a:Act),FY M w E a→(∀q∈rs,q.h M w)→∃v,(G6 r a).run P w= .ok v w∧p.h M w v
theorem AM.tmp {t:Tmp} {q p:Pr} (h:E.lookup t=some q) (hl:Pr.le q p):AM P E rs (.tmp t) p:=fun _ _ _ he _=>⟨_,rfl,hl _ _ _ (he _ _ h)⟩
theorem AM.cell (i:Nat) {c:Tmp} {t T:TypeId} {b m:Nat} {new:Bool} {ps:List Pr} {p:Pr} (h:E.lookup c=some (ptr b 0)) (hi:rs[i]? =some (AE new b T ps)) (ht:Fb P t=true) (hz:A8 P t=some m) (hm:ps.length=m) (hl:Pr.le (agg ps) p):AM P E rs (.cell c t) p:=by
 intro M w a he hr
 obtain ⟨v,h1,h2⟩:=kM ht hz hm (hr _ (List.mem_of_getElem? hi))
 refine ⟨v,?_,hl _ _ _ h2⟩
 have hc:a.tmps.getD c undef= .pointer (some ⟨b,0,none⟩):=he _ _ h
 unfold G6
 simp only [hc,asAddr]
 simpa [Sem.run_bind] using h1
theorem G7 (g:Func) (a:Act):results g a.tmps=(do let vs ←g.results.mapM (fun r=>G6 r a);pure (if h:vs.size=1 then vs[0] else .tuple vs)):=by
 have:(fun r:ResultVar=>G6 r a)=(fun| .tmp t=>pure (a.tmps.getD t undef)| .cell c t=>do loadVar t (←asAddr (a.tmps.getD c undef))):=by
  funext r;cases r<;>rfl
 rw [this];rfl
theorem results1 {g:Func} {r:ResultVar} {a:Act} {w:World} {v:Value} (hr:g.results= #[r]) (h:(G6 r a).run P w= .ok v w):(results g a.tmps).run P w= .ok v w:=by
 rw [G7,hr];simp [Sem.run_bind,h]
theorem results2 {g:Func} {r r':ResultVar} {a:Act} {w:World} {v v':Value} (hr:g.results= #[r,r']) (h:(G6 r a).run P w= .ok v w) (h':(G6 r' a).run P w= .ok v' w):(results g a.tmps).run P w= .ok (.tuple #[v,v']) w:=by
 rw [G7,hr];simp [Sem.run_bind,h,h']
theorem results3 {g:Func} {r r' r'':ResultVar} {a:Act} {w:World} {v v' v'':Value} (hr:g.results= #[r,r',r'']) (h:(G6 r a).run P w= .ok v w) (h':(G6 r' a).run P w= .ok v' w) (h'':(G6 r'' a).run P w= .ok v'' w):(results g a.tmps).run P w= .ok (.tuple #[v,v',v'']) w:=by
 rw [G7,hr];simp [Sem.run_bind,h,h',h'']
theorem Az.P3 {M:Av} {w:World}:∀{pre:List Ap},Az M0 w0 S (pre++rs) M w→Az M0 w0 S rs M w
 |[],h=>h
 |_::_,h=>Az.P3 h.JK
variable {g:Func} {M1:Av} {w1:World}
theorem Fin.CX {r:ResultVar} {p q:Pr} (hr:g.results= #[r]) (h:AM P E rs r q) (hl:Pr.le q p):Fin ⟨fz,[]⟩ E (Hp M0 w0 FT rs) (bodyPost P g (Sj M0 w0 p)) .ret:=by
 rintro a w ⟨M,_,hd,he,hi⟩
 obtain ⟨v,hv,hp⟩:=h M w a he (fun q hq=>(hi.hold q hq).1)
 obtain ⟨h1,h2⟩:=Br.D4 M0 w0 M w hi
 exact ⟨hd,v,results1 hr hv,_,rfl,p.st _ _ _ _ _ (Ext.less h1) (hl _ _ _ hp),h2⟩
theorem Fin.BZ {r r':ResultVar} {p q q':Pr} (hr:g.results= #[r,r']) (h:AM P E rs r q) (h':AM P E rs r' q') (hl:Pr.le (D6 [q,q']) p):Fin ⟨fz,[]⟩ E (Hp M0 w0 FT rs) (bodyPost P g (Sj M0 w0 p)) .ret:=by
 rintro a w ⟨M,_,hd,he,hi⟩
 obtain ⟨v,hv,hp⟩:=h M w a he (fun q hq=>(hi.hold q hq).1)
 obtain ⟨v',kW,hp'⟩:=h' M w a he (fun q hq=>(hi.hold q hq).1)
 obtain ⟨h1,h2⟩:=Br.D4 M0 w0 M w hi
 exact ⟨hd,_,results2 hr hv kW,_,rfl,p.st _ _ _ _ _ (Ext.less h1) (hl _ _ _ ⟨[_,_],rfl,hp,hp',trivial⟩),h2⟩
theorem Fin.FL {r r' r'':ResultVar} {p q q' kE:Pr} (hr:g.results= #[r,r',r'']) (h:AM P E rs r q) (h':AM P E rs r' q') (h'':AM P E rs r'' kE) (hl:Pr.le (D6 [q,q',kE]) p):Fin ⟨fz,[]⟩ E (Hp M0 w0 FT rs) (bodyPost P g (Sj M0 w0 p)) .ret:=by
 rintro a w ⟨M,_,hd,he,hi⟩
 obtain ⟨v,hv,hp⟩:=h M w a he (fun q hq=>(hi.hold q hq).1)
 obtain ⟨v',kW,hp'⟩:=h' M w a he (fun q hq=>(hi.hold q hq).1)
 obtain ⟨v'',kX,kY⟩:=h'' M w a he (fun q hq=>(hi.hold q hq).1)
 obtain ⟨h1,h2⟩:=Br.D4 M0 w0 M w hi
 exact ⟨hd,_,results3 hr hv kW kX,_,rfl,p.st _ _ _ _ _ (Ext.less h1) (hl _ _ _ ⟨[_,_,_],rfl,hp,hp',kY,trivial⟩),h2⟩
theorem Fin.GW (pre:List Ap) {r:ResultVar} {R:Ap} {R':Value→Ap} {p q:Pr} (hr:g.results= #[r]) (h:AM P E (pre++R::Ak M1 w1::rs) r q) (hl:Pr.le q p) (hR:∀M w v,q.h M w v→R' v=R):
  Fin ⟨fz,[]⟩ E (Hp M0 w0 S (pre++R::Ak M1 w1::rs)) (bodyPost P g (Mi M0 w0 S rs M1 w1 p R')) .ret:=by
 rintro a w ⟨M,_,hd,he,hi⟩
 obtain ⟨v,hv,hp⟩:=h M w a he (fun q hq=>(hi.hold q hq).1)
 obtain ⟨h1,h2⟩:=fG (Az.P3 hi)
 exact ⟨hd,v,results1 hr hv,_,M,rfl,hl _ _ _ hp,h1,by rw [hR _ _ _ hp];exact h2⟩
theorem Fin.Wg (pre:List Ap) {r r':ResultVar} {R:Ap} {p q q':Pr} (hr:g.results= #[r,r']) (h:AM P E (pre++R::Ak M1 w1::rs) r q) (h':AM P E (pre++R::Ak M1 w1::rs) r' q') (hl:Pr.le (D6 [q,q']) p):
  Fin ⟨fz,[]⟩ E (Hp M0 w0 S (pre++R::Ak M1 w1::rs)) (bodyPost P g (Mi M0 w0 S rs M1 w1 p (fun _=>R))) .ret:=by
 rintro a w ⟨M,_,hd,he,hi⟩
 obtain ⟨v,hv,hp⟩:=h M w a he (fun q hq=>(hi.hold q hq).1)
 obtain ⟨v',kW,hp'⟩:=h' M w a he (fun q hq=>(hi.hold q hq).1)
 obtain ⟨h1,h2⟩:=fG (Az.P3 hi)
 exact ⟨hd,_,results2 hr hv kW,_,M,rfl,hl _ _ _ ⟨[_,_],rfl,hp,hp',trivial⟩,h1,h2⟩
theorem Fin.vg (pre:List Ap) {r r' r'':ResultVar} {R:Ap} {p q q' kE:Pr} (hr:g.results= #[r,r',r'']) (h:AM P E (pre++R::Ak M1 w1::rs) r q) (h':AM P E (pre++R::Ak M1 w1::rs) r' q') (h'':AM P E (pre++R::Ak M1 w1::rs) r'' kE) (hl:Pr.le (D6 [q,q',kE]) p):
  Fin ⟨fz,[]⟩ E (Hp M0 w0 S (pre++R::Ak M1 w1::rs)) (bodyPost P g (Mi M0 w0 S rs M1 w1 p (fun _=>R))) .ret:=by
 rintro a w ⟨M,_,hd,he,hi⟩
 obtain ⟨v,hv,hp⟩:=h M w a he (fun q hq=>(hi.hold q hq).1)
 obtain ⟨v',kW,hp'⟩:=h' M w a he (fun q hq=>(hi.hold q hq).1)
 obtain ⟨v'',kX,kY⟩:=h'' M w a he (fun q hq=>(hi.hold q hq).1)
 obtain ⟨h1,h2⟩:=fG (Az.P3 hi)
 exact ⟨hd,_,results3 hr hv kW kX,_,M,rfl,hl _ _ _ ⟨[_,_,_],rfl,hp,hp',kY,trivial⟩,h1,h2⟩
theorem Ax {α:Type} {p:α→Pr} {q:Pr} (x:α) (h:Pr.le q (p x)):Pr.le q (Cp.ex p):=fun M w v hv=>⟨x,h M w v hv⟩
theorem A9 {φ:Prop} {p q:Pr} (hφ:φ) (h:Pr.le q p):Pr.le q (fact φ p):=fun M w v hv=>⟨hφ,h M w v hv⟩
end
section
variable {P:Program} {L:Lg P} {n:Fm} {fz:Nat} {E:Env} {M0:Av} {w0:World} {S:Nat→Prop} {rs:List SR} {o:Oper}
theorem F7 {t:TypeId} {x:Operand} {q:Tmp} {j:Nat} {new:Bool} {b off:Nat} {T:TypeId} {ps:List Pr} {p:Pr} [One p] (hg:o.guard=none) (hd:o.dst=none) (ho:o.op= .store t x (.tmp q)) (hx:VL E x (ptr b off)) (hy:E.lookup q=some p)
  (hz:A8 P t=some 1) (hl:off+1≤ps.length):DC P M0 w0 S n j (SR.c (AE new b T ps)) ⟨q,fun v=>AE new b T (ps.take off++[Ac v p]++ps.drop (off+1))⟩ o E any:=by
 refine ⟨hg,fun M w a rs hsz he hI hj=> ?_⟩
 have h1:a.eval x= .pointer (some ⟨b,off,none⟩):=hx.ev he Ar
 have hv:VL E (.tmp q) p:=⟨_,hy,Pr.le_refl _⟩
 have hp:=hv.ev he (show (Operand.tmp q)∈o.op.operands.toList by simp [ho,Op.operands])
 obtain ⟨h2,h3⟩:=(VL.le hv (Af p)).ev he (show (Operand.tmp q)∈o.op.operands.toList by simp [ho,Op.operands])
 obtain ⟨⟨_,cs,h4,h5,h6⟩,_⟩:=hI.hold _ (List.mem_of_getElem? hj)
 have h5l:=h5.length
 have h2l:=h2.length
 have hone:(a.eval (.tmp q)).cells= #[a.eval (.tmp q)]:=(One.one (p:=p) M w _ hp).1
 have h2':HL M w [Ac (a.eval (.tmp q)) p] (a.eval (.tmp q)).cells.toList:=by rw [hone];exact ⟨⟨rfl,hp⟩,trivial⟩
 have hcells:(a.eval (.tmp q)).cells.size=1:=by rw [hone];rfl
 have hrun:(storeCells ⟨b,off,none⟩ (a.eval (.tmp q)).cells.toList 0).run P w= .ok () (w.setRow b (cs.take off++(a.eval (.tmp q)).cells.toList++cs.drop (off+1)).toArray):=by
  have:=run_storeCells_at (P:=P) b off T (a.eval (.tmp q)).cells.toList 0 cs.toArray w h4 (by simp [hcells];omega) h3
  simpa [hcells] using this
 have En:(execOp a.eval o).run P w= .ok .skip (w.setRow b (cs.take off++(a.eval (.tmp q)).cells.toList++cs.drop (off+1)).toArray):=by
  simp [execOp,ho,h1,Instr.storeAt,Instr.sureAddr,storeVar,Cn hz,hcells,hrun]
 rw [En]
 obtain ⟨h7, h8⟩ := Az.write (qs := ps.take off ++ [Ac (a.eval (.tmp q)) p] ++ ps.drop (off + 1)) (cs := cs.take off ++ (a.eval (.tmp q)).cells.toList ++ cs.drop (off + 1)) hI hj ((((h5.take off).app h2')).app (h5.drop (off + 1)))
  (fun c hc=>by
   simp only [List.mem_append] at hc
   rcases hc with (hc|hc)|hc
   · exact MT
   · exact h3 c hc
   · exact h6 c (List.mem_of_mem_drop hc))
 refine ⟨M,trivial,h8,?_⟩
 have hput:SR.at_ (a.put o.dst undef) ⟨q,fun v=>AE new b T (ps.take off++[Ac v p]++ps.drop (off+1))⟩=AE new b T (ps.take off++[Ac (a.eval (.tmp q)) p]++ps.drop (off+1)):=by rw [hd];rfl
 rw [hput];exact h7
theorem kZ {j s:Nat} {f:Value→Ap} (hR:rs[j]? =some ⟨s,f⟩) (a:Act):(rs.set j (SR.c (f (a.tmps.getD s undef)))).map (·.at_ a)=rs.map (·.at_ a):=by
 rw [List.map_set]
 apply List.ext_getElem?
 intro i
 rw [List.getElem?_set]
 by_cases hij:j=i
 ·
  subst hij
  rw [if_pos rfl]
  split
  · rw [List.getElem?_map,hR];rfl
  ·
   rename_i hge
   rw [List.getElem?_eq_none AA]
 · rw [if_neg hij]
theorem BJ.RC {Q:Exit→Act→World→Prop} (j i s:Nat) {f g:Value→Ap} {p:Pr} (hR:rs[j]? =some ⟨s,f⟩) (hR':rs[i]? =some ⟨s,g⟩) (hij:j≠i) (hs:E.lookup s=some p) (k:∀v,BJ n M0 w0 S ((s,Ac v p)::E) ((rs.set j (SR.c (f v))).set i (SR.c (g v))) Q):BJ n M0 w0 S E rs Q:=by
 rintro a w ⟨M,h1,h2,h3,h4⟩
 refine k (a.tmps.getD s undef) a w ⟨M,h1,h2,?_,?_⟩
 ·
  intro t q hq
  simp only [List.lookup] at hq
  by_cases ht:t=s
  · exact a_
  · rw [show (t==s)=false by simpa using ht] at hq;exact h3 t q hq
 · rw [kZ (rs:=rs.set j (SR.c (f (a.tmps.getD s undef)))) (j:=i) (s:=s) (f:=g) (by rw [List.getElem?_set,if_neg hij];exact hR') a,kZ hR a];exact h4
end
section
variable {P:Program} {L:Lg P} {n:Fm} {fz:Nat} {E:Env} {M0:Av} {w0:World} {S:Nat→Prop} {rs:List Ap}
theorem St.H8 (j:Nat) {new:Bool} {b:Nat} {T:TypeId} {ps qs:List Pr} (hi:rs[j]? =some (AE new b T ps)) (h:Q7 ps qs) {a:Act} {w:World} (hs:St n E (Hp M0 w0 S rs) a w):St n E (Hp M0 w0 S (rs.set j (AE new b T qs))) a w:=by
 obtain ⟨M,h1,h2,h3,h4⟩:=hs
 have h4:Az M0 w0 S rs M w:=h4
 obtain ⟨h5,cs,h6,h7,h8⟩:=(h4.hold _ (List.mem_of_getElem? hi)).1
 exact ⟨M,h1,h2,h3,h4.CU hi rfl rfl ⟨h5,cs,h6,h.hl h7,h8⟩⟩
theorem Tr.H8 {Q:Exit→Act→World→Prop} {c:Code} (j:Nat) {new:Bool} {b:Nat} {T:TypeId} {ps:List Pr} (qs:List Pr) (hi:rs[j]? =some (AE new b T ps)) (h:Q7 ps qs) (k:Tr L n E (Hp M0 w0 S (rs.set j (AE new b T qs))) c Q):Tr L n E (Hp M0 w0 S rs) c Q:=
 Tr.conv (fun _ _ hs=>hs.H8 j hi h) k
theorem Fin.H8 {Q:Exit→Act→World→Prop} {e:Exit} (j:Nat) {new:Bool} {b:Nat} {T:TypeId} {ps:List Pr} (qs:List Pr) (hi:rs[j]? =some (AE new b T ps)) (h:Q7 ps qs) (k:Fin n E (Hp M0 w0 S (rs.set j (AE new b T qs))) Q e):Fin n E (Hp M0 w0 S rs) Q e:=
 Fin.conv (fun _ _ hs=>hs.H8 j hi h) k
end
section
variable {P:Program} {L:Lg P} {n:Fm} {fz:Nat} {E:Env} {M0:Av} {w0:World} {S:Nat→Prop} {rs:List Ap}
abbrev JY (m b:Nat):Value:= .slice (some ⟨b,0,none⟩) m m
theorem TO.Uy {ops:Array Oper} {o:Oper} {r:List Oper} {Q:Exit→Act→World→Prop} {d m fJ:Nat} {t e:TypeId} {x y:Operand} {z:Value} (hg:o.guard=none) (hd:o.dst=some d) (hn:d<n) (ho:o.op= .makeSlice t x y) (ht:P.underlying t=some (.slice e))
  (hs:A8 P e=some 1) (hby:Bx P e=some fJ) (hz:Bc P e=some [z]) (h1:z.oneCell'=true) (hx:VL E x (int ((m:Nat):Int))) (hy:VL E y (int ((m:Nat):Int))) (hm:m≤maxLen) (hb:fJ*m≤281474976710656)
  (k:∀b,TO P n ops r ((d,is (JY m b))::E) (Hp M0 w0 S (AE true b e ((List.replicate m z).map is)::rs)) Q):TO P n ops (o::r) E (Hp M0 w0 S rs) Q:=
 TO.fD hg fun K M w a hsz hdf he hI hK=>by
  have hx1:a.eval x= .int .i64 m:=hx.ev (o:=o) (CW he) Ar
  have hy1:a.eval y= .int .i64 m:=hy.ev (o:=o) (CW he) Ar
  have hi:∃i,P.info? e=some i∧i.size=1∧i.bytes=fJ∧∃z',i.zero=some z'∧z'.cells= #[z]:=by
   unfold A8 at hs;unfold Bx at hby;unfold Bc at hz
   cases hi:P.info? e with
   |none=>rw [hi] at hs;cases hs
   |some i=>
    rw [hi] at hs hby hz
    simp at hs hby hz
    obtain ⟨z',h2,h3⟩:=hz
    exact ⟨i,rfl,hs,hby,z',h2,by rw [←Array.toList_inj,h3]⟩
  obtain ⟨i,hi,hi1,hi2,z',Eh,Ig⟩:=hi
  have hmk:madeCells z'.cells m=(List.replicate m z).toArray:=by
   rw [Ig]
   apply Array.ext
   · simp [madeCells]
   ·
    intro j h1 h2
    simp [madeCells,Nat.mod_one]
  have hrun:=run_make (P:=P) w t e i z' ht hi Eh .i64 .i64 (m:Int) (m:Int) AA (Int.le_refl _) (by rw [hi2];have h0:((fJ*m:Nat):Int)≤281474976710656:=Int.ofNat_le.2 hb;rw [←Int.natCast_mul];exact h0) Ui
  rw [hi1] at hrun
  simp only [Int.toNat_natCast,Nat.mul_one] at hrun
  rw [hmk] at hrun
  refine TO.val (v:=JY m w.heap.size) (w':=w.alloc (.cells (List.replicate m z).toArray e)) ?_ ?_
  · simp [execOp,ho,hx1,hy1,hrun]
  ·
   obtain ⟨h2,h3⟩:=Az.add (T:=e) hI (LP M w (List.replicate m z)) (fun c hc=>by rw [List.eq_of_mem_replicate hc];exact h1)
   refine hK _ _ _ _ (k w.heap.size) ⟨_,by rw [B6];exact hsz,by rw [put_defers];exact hdf,?_,h2⟩
   intro s p hp
   simp only [List.lookup] at hp
   by_cases hs:s=d
   · exact Qq
   ·
    rw [show (s==d)=false by simpa using hs] at hp
    rw [hd,BW hs]
    exact p.st _ _ _ _ _ h3 (he s p hp)
theorem BH {I:Ce} {o:Oper} {t e:TypeId} {x y:Operand} {k:IntKind} {i:Int} {len cap sz b off:Nat} (ho:o.op= .indexAddr t x y) (ht:P.underlying t=some (.slice e)) (hz:A8 P e=some sz) (hx:VL E x (is (.slice (some ⟨b,off,none⟩) len cap))) (hy:VL E y (is (.int k i)))
  (h0:0≤i) (hl:i<len):Ae P I o E (ptr b (off+i.toNat*sz)):=
 Ae.same fun M w a he _=>by
  have h1:a.eval x=_:=hx.ev he Ar
  have h5:a.eval y= .int k i:=hy.ev he Ar
  refine ⟨_,?_,rfl⟩
  simp [execOp,ho,h1,h5,Instr.indexAt,asIntOf,run_underlying ht,Cn hz,h0,hl,Fe]
def Dn (e:TypeId):List Nat→List (List Pr)→List Ap
 |b::bs,r::FQ=>AE true b e r::Dn e bs FQ
 |_,_=>[]
theorem TS {e:TypeId} {b:Nat} {r:List Pr}:∀{bs:List Nat} {FQ:List (List Pr)},bs.length=FQ.length→(Dn e (bs++[b]) (FQ++[r])).Perm (AE true b e r::Dn e bs FQ)
 |[],[],_=>List.Perm.refl _
 |c::bs,q::FQ,h=>((TS Du).cons _).trans (List.Perm.swap _ _ _)
 |[],_::_,h=>by simp at h
 |_::_,[],h=>by simp at h
theorem Uz {e:TypeId} {b:Nat} (r':List Pr):∀{i:Nat} {bs:List Nat} {FQ:List (List Pr)},bs.length=FQ.length→bs[i]? =some b→(Dn e bs (FQ.set i r')).Perm (AE true b e r'::Dn e (bs.eraseIdx i) (FQ.eraseIdx i))
 |0,c::bs,q::FQ,_,hb=>by simp at hb;subst hb;exact List.Perm.refl _
 |i+1,c::bs,q::FQ,h,hb=>((Uz r' Du FW).cons _).trans (List.Perm.swap _ _ _)
 |_,[],[],_,hb=>by simp at hb
 |_,[],_::_,h,_=>by simp at h
 |_,_::_,[],h,_=>by simp at h
theorem kf {e:TypeId} {b i:Nat} {r:List Pr} {bs:List Nat} {FQ:List (List Pr)} (h:bs.length=FQ.length) (hb:bs[i]? =some b) (hr:FQ[i]? =some r):(Dn e bs FQ).Perm (AE true b e r::Dn e (bs.eraseIdx i) (FQ.eraseIdx i)):=by
 have:=Uz (e:=e) r h hb
 rwa [show FQ.set i r=FQ by
  have hl:i<FQ.length:=by rcases Nat.lt_or_ge i FQ.length with h|h;exact h;rw [List.getElem?_eq_none h] at hr;cases hr
  rw [List.getElem?_eq_getElem hl] at hr;simp at hr;rw [←hr,List.set_getElem_self]] at this
theorem Tr.perm {Q:Exit→Act→World→Prop} {c:Code} {rs':List Ap} (hp:rs.Perm rs') (k:Tr L n E (Hp M0 w0 S rs') c Q):Tr L n E (Hp M0 w0 S rs) c Q:=
 Tr.conv (fun _ _ ⟨M,h1,h2,h3,h4⟩=>⟨M,h1,h2,h3,Az.perm hp h4⟩) k
theorem Fin.perm {Q:Exit→Act→World→Prop} {ex:Exit} {rs':List Ap} (hp:rs.Perm rs') (k:Fin n E (Hp M0 w0 S rs') Q ex):Fin n E (Hp M0 w0 S rs) Q ex:=
 Fin.conv (fun _ _ ⟨M,h1,h2,h3,h4⟩=>⟨M,h1,h2,h3,Az.perm hp h4⟩) k
theorem Az.P4 {b:Nat} {T:TypeId} {ps:List Pr} {M:Av} {w:World} (h4:Az M0 w0 S (AE true b T ps::rs) M w):∃M',Az M0 w0 S rs M' w∧Ext M w M' w∧Row M' w ⟨b,0,none⟩ 0 ps:=by
 obtain ⟨⟨hm,cs,hh,hc,hone⟩,hbb⟩:=h4.hold _ (List.mem_cons_self ..)
 obtain ⟨hlt,hnew⟩:=hbb b rfl
 have hnew:w0.heap.size≤b:=by simpa [AE] using hnew
 have he:Ext M w (fun b' o=>M b' o∧b'≠b) w:=Ext.less fun _ _ h=>h.1
 obtain ⟨AFI,AFJ⟩:=List.pairwise_cons.1 h4.nd
 refine ⟨fun b' o=>M b' o∧b'≠b,⟨h4.m0,fun b' o' hm'=>⟨h4.m b' o' hm',fun e=> ?_⟩,h4.os,h4.tape,h4.output,h4.size,h4.block,fun b' o' hm'=>h4.bd b' o' hm'.1,fun r hr=> ?_,AFJ⟩,he,fun j p hp=> ?_⟩
 ·
  subst e
  have:=h4.m0 _ _ hm'
  omega
 ·
  obtain ⟨h5,h6⟩:=h4.hold r (List.mem_cons_of_mem _ hr)
  exact ⟨r.st _ _ _ _ he (fun b' hb'=>⟨rfl,fun o' hmo=>⟨hmo,fun e=>AFI r hr b rfl (by rw [←e];exact hb')⟩⟩) h5,h6⟩
 ·
  obtain ⟨u,hu,hpu⟩:=hc.at_ j p hp
  refine ⟨u,?_,fun hx=>hx.2 rfl,hone u (List.mem_of_getElem? hu),p.st _ _ _ _ _ he hpu⟩
  rw [show Addr.add ⟨b,0,none⟩ (0+j)=⟨b,j,none⟩ by unfold Addr.add;split<;>simp_all]
  simp [World.cell?,hh,hu]
theorem Az.F8 {e:TypeId} {w:World}:∀{bs:List Nat} {FQ:List (List Pr)} {M:Av},bs.length=FQ.length→Az M0 w0 S (Dn e bs FQ++rs) M w→∃M',Az M0 w0 S rs M' w∧Ext M w M' w∧∀(i:Nat) b r,bs[i]? =some b→FQ[i]? =some r→Row M' w ⟨b,0,none⟩ 0 r
 |[],[],M,_,h=>⟨M,h,Ext.refl _ _,fun i b r hb=>by simp at hb⟩
 |c::bs,q::FQ,M,hl,h=>by
  obtain ⟨M1,h1,h2,h3⟩:=Az.P4 (rs:=Dn e bs FQ++rs) h
  obtain ⟨M2,h4,h5,h6⟩:=Az.F8 (by simpa using hl) h1
  refine ⟨M2,h4,h2.trans h5,fun i b r hb hr=> ?_⟩
  cases i with
  |zero=>simp at hb hr;subst hb;subst hr;exact h3.st h5
  |succ i=>exact h6 i b r FW (by simpa using hr)
 |[],_::_,_,h,_=>by simp at h
 |_::_,[],_,h,_=>by simp at h
theorem St.F8 {e:TypeId} {bs:List Nat} {FQ:List (List Pr)} {m s:Nat} {q:Pr} (hl:bs.length=FQ.length) (hm:m≤maxLen) (hr:∀r∈FQ,r.length=m) (hs:E.lookup s=some q) (hq:Pr.le q (slice 1 (bs.map fun b=>[is (JY m b)])))
  {a:Act} {w:World} (h:St n E (Hp M0 w0 S (Dn e bs FQ++rs)) a w):St n ((s,slice 1 (FQ.map fun r=>[slice 1 (r.map fun p=>[p])]))::E) (Hp M0 w0 S rs) a w:=by
 obtain ⟨M,h1,h2,h3,h4⟩:=h
 obtain ⟨M',h5,h6,h7⟩:=Az.F8 hl h4
 refine ⟨M',h1,h2,?_,h5⟩
 intro t p hp
 simp only [List.lookup] at hp
 by_cases ht:t=s
 ·
  subst ht
  simp at hp
  subst hp
  obtain ⟨A,cap,h8,h9,h10,h11,h12⟩:=(slice 1 (bs.map fun b=>[is (JY m b)])).st _ _ _ _ _ h6 (hq _ _ _ (h3 t _ hs))
  refine ⟨A,cap,by rw [h8];simp [hl],by simpa [hl] using h9,h10,h11,fun i row hrow=> ?_⟩
  rw [List.getElem?_map] at hrow
  cases htb:FQ[i]? with
  |none=>rw [htb] at hrow;cases hrow
  |some r=>
   rw [htb] at hrow
   simp at hrow
   subst hrow
   have Fp:i<bs.length:=by
    rcases Nat.lt_or_ge i FQ.length with h|h
    · omega
    · rw [List.getElem?_eq_none h] at htb;cases htb
   obtain ⟨_,ad,Nf,Ng⟩:=h12 i [is (JY m bs[i])] (by rw [List.getElem?_map,List.getElem?_eq_getElem Fp];rfl)
   refine ⟨rfl,ad,Nf,fun j p hp=> ?_⟩
   have hj:j=0:=by
    rcases Nat.eq_zero_or_pos j with h|h
    · exact h
    · exact Pb
   subst hj
   simp at hp
   subst hp
   obtain ⟨u,Wh,h16,PL,Sb⟩:=Ng 0 _ rfl
   refine ⟨u,Wh,h16,PL,?_⟩
   have hu:u=JY m bs[i]:=Sb
   have hrl:=hr r (List.mem_of_getElem? htb)
   refine ⟨some ⟨bs[i],0,none⟩,m,by rw [hu];simp [hrl],by simp [hrl],hm,by simp,fun x row hx=> ?_⟩
   rw [List.getElem?_map] at hx
   cases hrx:r[x]? with
   |none=>rw [hrx] at hx;cases hx
   |some p=>
    rw [hrx] at hx
    simp at hx
    subst hx
    refine ⟨rfl,⟨bs[i],0,none⟩,rfl,fun y p' hy=> ?_⟩
    have hy0:y=0:=by
     rcases Nat.eq_zero_or_pos y with h|h
     · exact h
     · rw [List.getElem?_eq_none CE] at hy;cases hy
    subst hy0
    simp at hy
    subst hy
    have:=h7 i _ r (List.getElem?_eq_getElem Fp) htb x p hrx
    simpa using this
 ·
  rw [show (t==s)=false by simpa using ht] at hp
  exact p.st _ _ _ _ _ h6 (h3 t p hp)
theorem Tr.F8 {Q:Exit→Act→World→Prop} {c:Code} {e:TypeId} {bs:List Nat} {FQ:List (List Pr)} {m:Nat} (s:Nat) {q:Pr} (hl:bs.length=FQ.length) (hm:m≤maxLen) (hr:∀r∈FQ,r.length=m) (hs:E.lookup s=some q) (hq:Pr.le q (slice 1 (bs.map fun b=>[is (JY m b)])))
  (k:Tr L n ((s,slice 1 (FQ.map fun r=>[slice 1 (r.map fun p=>[p])]))::E) (Hp M0 w0 S rs) c Q):Tr L n E (Hp M0 w0 S (Dn e bs FQ++rs)) c Q:=
 Tr.conv (fun _ _ h=>h.F8 hl hm hr hs hq) k
theorem Tr.Wi {Q:Exit→Act→World→Prop} {c:Code} {e:TypeId} {bs:List Nat} {FQ:List (List Pr)} {m:Nat} (s:Nat) {q:Pr} (hl:bs.length=FQ.length) (hm:m≤maxLen) (hr:∀r∈FQ,r.length=m) (hs:E.lookup s=some q) (hq:Pr.le q (slice 1 (bs.map fun b=>[is (JY m b)])))
  (k:Tr L n ((s,slice 1 (FQ.map fun r=>[slice 1 (r.map fun p=>[p])]))::E) (Hp M0 w0 S []) c Q):Tr L n E (Hp M0 w0 S (Dn e bs FQ)) c Q:=
 Tr.conv (fun _ _ h=>St.F8 (e:=e) (rs:=[]) hl hm hr hs hq (by rw [List.append_nil];exact h)) k
end
end Cp
namespace Go.Proofs.YtmocaapoeefgkaaGreatDoor
open Go Cp
theorem mixed:Tryz.prog.follows .mixedOrders=true:=by kernel_rfl
theorem sz1:A8 Tryz.prog 1=some 1:=by kernel_rfl
theorem z1:Bc Tryz.prog 1=some [.nilFunc]:=by kernel_rfl
theorem sz2:A8 Tryz.prog 2=some 1:=by kernel_rfl
theorem z2:Bc Tryz.prog 2=some [.int .i64 0]:=by kernel_rfl
theorem Bw:A8 Tryz.prog 3=some 1:=by kernel_rfl
theorem Cq:ES Tryz.prog 3=true:=by kernel_rfl
theorem IY:Bx Tryz.prog 3=some 8:=by kernel_rfl
theorem zo3:([.int .i64 0]:List Value).all (·.oneCell')=true:=by kernel_rfl
theorem z3:Bc Tryz.prog 3=some [.int .i64 0]:=by kernel_rfl
theorem U0:A8 Tryz.prog 4=some 1:=by kernel_rfl
theorem Yz:ES Tryz.prog 4=true:=by kernel_rfl
theorem by4:Bx Tryz.prog 4=some 1:=by kernel_rfl
theorem zo4:([.bool false]:List Value).all (·.oneCell')=true:=by kernel_rfl
theorem z4:Bc Tryz.prog 4=some [.bool false]:=by kernel_rfl
theorem Nh:A8 Tryz.prog 5=some 1:=by kernel_rfl
theorem AA6:ES Tryz.prog 5=true:=by kernel_rfl
theorem cC:Bx Tryz.prog 5=some 1:=by kernel_rfl
theorem zo5:([.int .u8 0]:List Value).all (·.oneCell')=true:=by kernel_rfl
theorem z5:Bc Tryz.prog 5=some [.int .u8 0]:=by kernel_rfl
theorem z6:Bc Tryz.prog 6=some [.int .u8 0]:=by kernel_rfl
theorem Ms:A8 Tryz.prog 9=some 1:=by kernel_rfl
theorem PM:ES Tryz.prog 9=true:=by kernel_rfl
theorem by9:Bx Tryz.prog 9=some 16:=by kernel_rfl
theorem zo9:([.string (ByteArray.mk #[])]:List Value).all (·.oneCell')=true:=by kernel_rfl
theorem z9:Bc Tryz.prog 9=some [.string (ByteArray.mk #[])]:=by kernel_rfl
theorem z12:Bc Tryz.prog 12=some [.int .u64 0]:=by kernel_rfl
theorem z13:Bc Tryz.prog 13=some [.string (ByteArray.mk #[]),.int .u64 0]:=by kernel_rfl
theorem z18:Bc Tryz.prog 18=some [.pointer none]:=by kernel_rfl
theorem z19:Bc Tryz.prog 19=some [.pointer none]:=by kernel_rfl
theorem z20:Bc Tryz.prog 20=some [.nilIface]:=by kernel_rfl
theorem Ls:A8 Tryz.prog 22=some 1:=by kernel_rfl
theorem Mt:ES Tryz.prog 22=true:=by kernel_rfl
theorem AFK:Bx Tryz.prog 22=some 24:=by kernel_rfl
theorem z22:Bc Tryz.prog 22=some [.slice none 0 0]:=by kernel_rfl
theorem z24:Bc Tryz.prog 24=some [.nilFunc]:=by kernel_rfl
theorem xC:A8 Tryz.prog 27=some 1:=by kernel_rfl
theorem Oj:ES Tryz.prog 27=true:=by kernel_rfl
theorem AA7:A8 Tryz.prog 28=some 1:=by kernel_rfl
theorem cE:ES Tryz.prog 28=true:=by kernel_rfl
theorem xD:A8 Tryz.prog 29=some 1:=by kernel_rfl
theorem kg:ES Tryz.prog 29=true:=by kernel_rfl
theorem DZ:A8 Tryz.prog 31=some 3:=by kernel_rfl
theorem Db:Fb Tryz.prog 31=true:=by kernel_rfl
theorem AA8:∀ps,Tryz.prog.built 31 ps=Instr.fill (fun i=>(#[(0,1),(1,1),(2,1)]:Array (Nat×Nat))[i]?) ((List.replicate 3 (.slice none 0 0)):List Value).toArray ps:=by intro ps;kernel_rfl
theorem IG:((List.replicate 3 (.slice none 0 0)):List Value).all (·.oneCell')=true:=by kernel_rfl
theorem z31:Bc Tryz.prog 31=some (List.replicate 3 (.slice none 0 0)):=by kernel_rfl
theorem G8:Ab Tryz.prog 31 0=some 0:=by kernel_rfl
theorem N2:Ab Tryz.prog 31 1=some 1:=by kernel_rfl
theorem N3:Ab Tryz.prog 31 2=some 2:=by kernel_rfl
theorem AA9:A8 Tryz.prog 32=some 1:=by kernel_rfl
theorem Wj:ES Tryz.prog 32=true:=by kernel_rfl
theorem vh:ES Tryz.prog 33=true:=by kernel_rfl
theorem CJ:A8 Tryz.prog 35=some 3:=by kernel_rfl
theorem Cu:Fb Tryz.prog 35=true:=by kernel_rfl
theorem Lt:∀ps,Tryz.prog.built 35 ps=Instr.fill (fun i=>(#[(0,1),(1,1),(2,1)]:Array (Nat×Nat))[i]?) ((List.replicate 3 (.slice none 0 0)):List Value).toArray ps:=by intro ps;kernel_rfl
theorem E9:((List.replicate 3 (.slice none 0 0)):List Value).all (·.oneCell')=true:=by kernel_rfl
theorem z35:Bc Tryz.prog 35=some (List.replicate 3 (.slice none 0 0)):=by kernel_rfl
theorem Lu:Ab Tryz.prog 35 0=some 0:=by kernel_rfl
theorem kj:Ab Tryz.prog 35 1=some 1:=by kernel_rfl
theorem U1:Ab Tryz.prog 35 2=some 2:=by kernel_rfl
theorem z37:Bc Tryz.prog 37=some [.nilFunc]:=by kernel_rfl
theorem ko:A8 Tryz.prog 38=some 1:=by kernel_rfl
theorem vi:ES Tryz.prog 38=true:=by kernel_rfl
theorem CC:A8 Tryz.prog 40=some 9:=by kernel_rfl
theorem Cg:Fb Tryz.prog 40=true:=by kernel_rfl
theorem xE:Bx Tryz.prog 40=some 144:=by kernel_rfl
theorem rO:∀ps,Tryz.prog.built 40 ps=Instr.fill (fun i=>(#[(0,1),(1,1),(2,1),(3,1),(4,1),(5,1),(6,1),(7,1),(8,1)]:Array (Nat×Nat))[i]?) ([.string (ByteArray.mk #[]),.int .i64 0,.int .i64 0,.slice none 0 0,.bool false,.slice none 0 0,.slice none 0 0,.slice none 0 0,.bool false]:List Value).toArray ps:=by intro ps;kernel_rfl
theorem Hs:([.string (ByteArray.mk #[]),.int .i64 0,.int .i64 0,.slice none 0 0,.bool false,.slice none 0 0,.slice none 0 0,.slice none 0 0,.bool false]:List Value).all (·.oneCell')=true:=by kernel_rfl
theorem z40:Bc Tryz.prog 40=some [.string (ByteArray.mk #[]),.int .i64 0,.int .i64 0,.slice none 0 0,.bool false,.slice none 0 0,.slice none 0 0,.slice none 0 0,.bool false]:=by kernel_rfl
theorem kr:Ab Tryz.prog 40 0=some 0:=by kernel_rfl
theorem xF:Ab Tryz.prog 40 1=some 1:=by kernel_rfl
theorem Y0:Ab Tryz.prog 40 2=some 2:=by kernel_rfl
theorem N4:Ab Tryz.prog 40 3=some 3:=by kernel_rfl
theorem xH:Ab Tryz.prog 40 4=some 4:=by kernel_rfl
theorem RD:Ab Tryz.prog 40 5=some 5:=by kernel_rfl
theorem ku:Ab Tryz.prog 40 6=some 6:=by kernel_rfl
theorem k5:Ab Tryz.prog 40 7=some 7:=by kernel_rfl
theorem Y1:Ab Tryz.prog 40 8=some 8:=by kernel_rfl
theorem ET:A8 Tryz.prog 42=some 7:=by kernel_rfl
theorem Ea:Fb Tryz.prog 42=true:=by kernel_rfl
theorem rP:∀ps,Tryz.prog.built 42 ps=Instr.fill (fun i=>(#[(0,3),(3,1),(4,1),(5,1),(6,1)]:Array (Nat×Nat))[i]?) ([.slice none 0 0,.slice none 0 0,.slice none 0 0,.int .i64 0,.slice none 0 0,.slice none 0 0,.bool false]:List Value).toArray ps:=by intro ps;kernel_rfl
theorem J0:([.slice none 0 0,.slice none 0 0,.slice none 0 0,.int .i64 0,.slice none 0 0,.slice none 0 0,.bool false]:List Value).all (·.oneCell')=true:=by kernel_rfl
theorem z42:Bc Tryz.prog 42=some [.slice none 0 0,.slice none 0 0,.slice none 0 0,.int .i64 0,.slice none 0 0,.slice none 0 0,.bool false]:=by kernel_rfl
theorem Y2:Ab Tryz.prog 42 0=some 0:=by kernel_rfl
theorem k6:Ab Tryz.prog 42 1=some 3:=by kernel_rfl
theorem Y3:Ab Tryz.prog 42 2=some 4:=by kernel_rfl
theorem Y4:Ab Tryz.prog 42 3=some 5:=by kernel_rfl
theorem xI:Ab Tryz.prog 42 4=some 6:=by kernel_rfl
theorem xJ:A8 Tryz.prog 43=some 1:=by kernel_rfl
theorem AA_:ES Tryz.prog 43=true:=by kernel_rfl
theorem z43:Bc Tryz.prog 43=some [.int .i64 0]:=by kernel_rfl
theorem Gn:A8 Tryz.prog 51=some 1:=by kernel_rfl
theorem cF:ES Tryz.prog 51=true:=by kernel_rfl
theorem Wk:Bx Tryz.prog 51=some 24:=by kernel_rfl
theorem ABA:([.slice none 0 0]:List Value).all (·.oneCell')=true:=by kernel_rfl
theorem z51:Bc Tryz.prog 51=some [.slice none 0 0]:=by kernel_rfl
theorem jK:Bc Tryz.prog 54=some [.nilFunc]:=by kernel_rfl
theorem Cr:A8 Tryz.prog 61=some 2:=by kernel_rfl
theorem Fh:Fb Tryz.prog 61=true:=by kernel_rfl
theorem Sn:Bx Tryz.prog 61=some 16:=by kernel_rfl
theorem ABB:∀ps,Tryz.prog.built 61 ps=Instr.fill (fun i=>(#[(0,1),(1,1)]:Array (Nat×Nat))[i]?) ((List.replicate 2 (.int .i64 0)):List Value).toArray ps:=by intro ps;kernel_rfl
theorem RE:((List.replicate 2 (.int .i64 0)):List Value).all (·.oneCell')=true:=by kernel_rfl
theorem Sc:Bc Tryz.prog 61=some (List.replicate 2 (.int .i64 0)):=by kernel_rfl
theorem Y5:Ab Tryz.prog 61 0=some 0:=by kernel_rfl
theorem Y6:Ab Tryz.prog 61 1=some 1:=by kernel_rfl
theorem ABC:ES Tryz.prog 75=true:=by kernel_rfl
theorem Wl:A8 Tryz.prog 77=some 3:=by kernel_rfl
theorem Ol:Fb Tryz.prog 77=true:=by kernel_rfl
theorem AFL:∀ps,Tryz.prog.built 77 ps=Instr.fill (fun i=>(#[(0,1),(1,1),(2,1)]:Array (Nat×Nat))[i]?) ((List.replicate 3 (.slice none 0 0)):List Value).toArray ps:=by intro ps;kernel_rfl
theorem ABD:((List.replicate 3 (.slice none 0 0)):List Value).all (·.oneCell')=true:=by kernel_rfl
theorem z77:Bc Tryz.prog 77=some (List.replicate 3 (.slice none 0 0)):=by kernel_rfl
theorem xL:Ab Tryz.prog 77 0=some 0:=by kernel_rfl
theorem xM:Ab Tryz.prog 77 1=some 1:=by kernel_rfl
theorem xN:Ab Tryz.prog 77 2=some 2:=by kernel_rfl
theorem LG:A8 Tryz.prog 81=some 2:=by kernel_rfl
theorem JL:Fb Tryz.prog 81=true:=by kernel_rfl
theorem xO:∀ps,Tryz.prog.built 81 ps=Instr.fill (fun i=>(#[(0,1),(1,1)]:Array (Nat×Nat))[i]?) ((List.replicate 2 (.int .i64 0)):List Value).toArray ps:=by intro ps;kernel_rfl
theorem EU:((List.replicate 2 (.int .i64 0)):List Value).all (·.oneCell')=true:=by kernel_rfl
theorem Kv:Bc Tryz.prog 81=some (List.replicate 2 (.int .i64 0)):=by kernel_rfl
theorem xP:Ab Tryz.prog 81 0=some 0:=by kernel_rfl
theorem xQ:Ab Tryz.prog 81 1=some 1:=by kernel_rfl
theorem ABE:A8 Tryz.prog 82=some 1:=by kernel_rfl
theorem ABF:ES Tryz.prog 82=true:=by kernel_rfl
theorem E3:A8 Tryz.prog 84=some 4:=by kernel_rfl
theorem Om:Fb Tryz.prog 84=true:=by kernel_rfl
theorem fK:Bx Tryz.prog 84=some 48:=by kernel_rfl
theorem ABG:∀ps,Tryz.prog.built 84 ps=Instr.fill (fun i=>(#[(0,2),(2,1),(3,1)]:Array (Nat×Nat))[i]?) ([.int .i64 0,.int .i64 0,.int .i64 0,.slice none 0 0]:List Value).toArray ps:=by intro ps;kernel_rfl
theorem So:([.int .i64 0,.int .i64 0,.int .i64 0,.slice none 0 0]:List Value).all (·.oneCell')=true:=by kernel_rfl
theorem WD:Bc Tryz.prog 84=some [.int .i64 0,.int .i64 0,.int .i64 0,.slice none 0 0]:=by kernel_rfl
theorem xR:Ab Tryz.prog 84 0=some 0:=by kernel_rfl
theorem xS:Ab Tryz.prog 84 1=some 2:=by kernel_rfl
theorem k7:Ab Tryz.prog 84 2=some 3:=by kernel_rfl
theorem Dp:A8 Tryz.prog 86=some 8:=by kernel_rfl
theorem HW:Fb Tryz.prog 86=true:=by kernel_rfl
theorem Y7:Bx Tryz.prog 86=some 80:=by kernel_rfl
theorem fL:∀ps,Tryz.prog.built 86 ps=Instr.fill (fun i=>(#[(0,1),(1,1),(2,1),(3,1),(4,4)]:Array (Nat×Nat))[i]?) ([.int .i64 0,.int .i64 0,.int .i64 0,.int .i64 0,.int .i64 0,.int .i64 0,.int .i64 0,.slice none 0 0]:List Value).toArray ps:=by intro ps;kernel_rfl
theorem LH:([.int .i64 0,.int .i64 0,.int .i64 0,.int .i64 0,.int .i64 0,.int .i64 0,.int .i64 0,.slice none 0 0]:List Value).all (·.oneCell')=true:=by kernel_rfl
theorem P5:Bc Tryz.prog 86=some [.int .i64 0,.int .i64 0,.int .i64 0,.int .i64 0,.int .i64 0,.int .i64 0,.int .i64 0,.slice none 0 0]:=by kernel_rfl
theorem xT:Ab Tryz.prog 86 0=some 0:=by kernel_rfl
theorem xU:Ab Tryz.prog 86 1=some 1:=by kernel_rfl
theorem xV:Ab Tryz.prog 86 2=some 2:=by kernel_rfl
theorem xW:Ab Tryz.prog 86 3=some 3:=by kernel_rfl
theorem xX:Ab Tryz.prog 86 4=some 4:=by kernel_rfl
theorem rQ:A8 Tryz.prog 99=some 1:=by kernel_rfl
theorem ABH:ES Tryz.prog 99=true:=by kernel_rfl
theorem AFM:Bx Tryz.prog 99=some 24:=by kernel_rfl
theorem AFN:([.slice none 0 0]:List Value).all (·.oneCell')=true:=by kernel_rfl
theorem z99:Bc Tryz.prog 99=some [.slice none 0 0]:=by kernel_rfl
theorem ABI:∀ps,Tryz.prog.built 104 ps=Instr.fill (fun i=>(#[(0,1),(1,1)]:Array (Nat×Nat))[i]?) ([.slice none 0 0,.int .i64 0]:List Value).toArray ps:=by intro ps;kernel_rfl
theorem ABJ:([.slice none 0 0,.int .i64 0]:List Value).all (·.oneCell')=true:=by kernel_rfl
theorem rR:Ab Tryz.prog 104 0=some 0:=by kernel_rfl
theorem rS:Ab Tryz.prog 104 1=some 1:=by kernel_rfl
theorem ABK:A8 Tryz.prog 105=some 1:=by kernel_rfl
theorem xY:ES Tryz.prog 105=true:=by kernel_rfl
theorem Bn:A8 Tryz.prog 107=some 1:=by kernel_rfl
theorem CS:Fb Tryz.prog 107=true:=by kernel_rfl
theorem JM:∀ps,Tryz.prog.built 107 ps=Instr.fill (fun i=>(#[(0,1)]:Array (Nat×Nat))[i]?) ([.slice none 0 0]:List Value).toArray ps:=by intro ps;kernel_rfl
theorem Eb:([.slice none 0 0]:List Value).all (·.oneCell')=true:=by kernel_rfl
theorem z107:Bc Tryz.prog 107=some [.slice none 0 0]:=by kernel_rfl
theorem cH:Ab Tryz.prog 107 0=some 0:=by kernel_rfl
theorem Y8:ES Tryz.prog 111=true:=by kernel_rfl
theorem k8:ES Tryz.prog 112=true:=by kernel_rfl
theorem TT:A8 Tryz.prog 114=some 2:=by kernel_rfl
theorem N5:Fb Tryz.prog 114=true:=by kernel_rfl
theorem ABL:∀ps,Tryz.prog.built 114 ps=Instr.fill (fun i=>(#[(0,1),(1,1)]:Array (Nat×Nat))[i]?) ((List.replicate 2 (.slice none 0 0)):List Value).toArray ps:=by intro ps;kernel_rfl
theorem ABM:((List.replicate 2 (.slice none 0 0)):List Value).all (·.oneCell')=true:=by kernel_rfl
theorem U2:Ab Tryz.prog 114 0=some 0:=by kernel_rfl
theorem cI:Ab Tryz.prog 114 1=some 1:=by kernel_rfl
theorem Wm:A8 Tryz.prog 116=some 2:=by kernel_rfl
theorem RF:Fb Tryz.prog 116=true:=by kernel_rfl
theorem ABN:∀ps,Tryz.prog.built 116 ps=Instr.fill (fun i=>(#[(0,1),(1,1)]:Array (Nat×Nat))[i]?) ([.slice none 0 0,.int .i64 0]:List Value).toArray ps:=by intro ps;kernel_rfl
theorem ABO:([.slice none 0 0,.int .i64 0]:List Value).all (·.oneCell')=true:=by kernel_rfl
theorem vk:A8 Tryz.prog 127=some 1:=by kernel_rfl
theorem xZ:ES Tryz.prog 127=true:=by kernel_rfl
theorem Ez:A8 Tryz.prog 132=some 2:=by kernel_rfl
theorem RG:Fb Tryz.prog 132=true:=by kernel_rfl
theorem vm:Bx Tryz.prog 132=some 16:=by kernel_rfl
theorem vn:∀ps,Tryz.prog.built 132 ps=Instr.fill (fun i=>(#[(0,1),(1,1)]:Array (Nat×Nat))[i]?) ((List.replicate 2 (.int .i64 0)):List Value).toArray ps:=by intro ps;kernel_rfl
theorem Wn:((List.replicate 2 (.int .i64 0)):List Value).all (·.oneCell')=true:=by kernel_rfl
theorem Y9:Bc Tryz.prog 132=some (List.replicate 2 (.int .i64 0)):=by kernel_rfl
theorem rT:Ab Tryz.prog 132 0=some 0:=by kernel_rfl
theorem rU:Ab Tryz.prog 132 1=some 1:=by kernel_rfl
theorem vo:A8 Tryz.prog 133=some 1:=by kernel_rfl
theorem xd:ES Tryz.prog 133=true:=by kernel_rfl
theorem HX:A8 Tryz.prog 135=some 5:=by kernel_rfl
theorem U3:Fb Tryz.prog 135=true:=by kernel_rfl
theorem k9:Bx Tryz.prog 135=some 64:=by kernel_rfl
theorem ABP:∀ps,Tryz.prog.built 135 ps=Instr.fill (fun i=>(#[(0,1),(1,1),(2,1),(3,1),(4,1)]:Array (Nat×Nat))[i]?) ([.string (ByteArray.mk #[]),.int .i64 0,.int .i64 0,.slice none 0 0,.int .i64 0]:List Value).toArray ps:=by intro ps;kernel_rfl
theorem Wo:([.string (ByteArray.mk #[]),.int .i64 0,.int .i64 0,.slice none 0 0,.int .i64 0]:List Value).all (·.oneCell')=true:=by kernel_rfl
theorem U4:Bc Tryz.prog 135=some [.string (ByteArray.mk #[]),.int .i64 0,.int .i64 0,.slice none 0 0,.int .i64 0]:=by kernel_rfl
theorem rV:Ab Tryz.prog 135 0=some 0:=by kernel_rfl
theorem rW:Ab Tryz.prog 135 1=some 1:=by kernel_rfl
theorem rX:Ab Tryz.prog 135 2=some 2:=by kernel_rfl
theorem U5:Ab Tryz.prog 135 3=some 3:=by kernel_rfl
theorem rY:Ab Tryz.prog 135 4=some 4:=by kernel_rfl
theorem ABQ:∀ps,Tryz.prog.built 139 ps=Instr.fill (fun i=>(#[(0,1),(1,1)]:Array (Nat×Nat))[i]?) ((List.replicate 2 (.int .i64 0)):List Value).toArray ps:=by intro ps;kernel_rfl
theorem ABR:((List.replicate 2 (.int .i64 0)):List Value).all (·.oneCell')=true:=by kernel_rfl
theorem rZ:Ab Tryz.prog 139 0=some 0:=by kernel_rfl
theorem rj:Ab Tryz.prog 139 1=some 1:=by kernel_rfl
theorem II:A8 Tryz.prog 141=some 3:=by kernel_rfl
theorem RH:Fb Tryz.prog 141=true:=by kernel_rfl
theorem ABS:∀ps,Tryz.prog.built 141 ps=Instr.fill (fun i=>(#[(0,2),(2,1)]:Array (Nat×Nat))[i]?) ([.int .i64 0,.int .i64 0,.slice none 0 0]:List Value).toArray ps:=by intro ps;kernel_rfl
theorem RI:([.int .i64 0,.int .i64 0,.slice none 0 0]:List Value).all (·.oneCell')=true:=by kernel_rfl
theorem z141:Bc Tryz.prog 141=some [.int .i64 0,.int .i64 0,.slice none 0 0]:=by kernel_rfl
theorem ru:Ab Tryz.prog 141 0=some 0:=by kernel_rfl
theorem ry:Ab Tryz.prog 141 1=some 2:=by kernel_rfl
theorem On:A8 Tryz.prog 160=some 1:=by kernel_rfl
theorem xe:ES Tryz.prog 160=true:=by kernel_rfl
theorem ABT:Bx Tryz.prog 160=some 24:=by kernel_rfl
theorem z160:Bc Tryz.prog 160=some [.slice none 0 0]:=by kernel_rfl
theorem ABU:A8 Tryz.prog 176=some 1:=by kernel_rfl
theorem J1:ES Tryz.prog 176=true:=by kernel_rfl
theorem ABV:([.pointer none]:List Value).all (·.oneCell')=true:=by kernel_rfl
theorem AFO:Bc Tryz.prog 176=some [.pointer none]:=by kernel_rfl
theorem Fu:A8 Tryz.prog 181=some 1:=by kernel_rfl
theorem F9:ES Tryz.prog 181=true:=by kernel_rfl
theorem vp:Bx Tryz.prog 181=some 4:=by kernel_rfl
theorem ABW:Bc Tryz.prog 181=some [.int .u32 0]:=by kernel_rfl
theorem k_:A8 Tryz.prog 187=some 2:=by kernel_rfl
theorem xg:Fb Tryz.prog 187=true:=by kernel_rfl
theorem vu:∀ps,Tryz.prog.built 187 ps=Instr.fill (fun i=>(#[(0,1),(1,1)]:Array (Nat×Nat))[i]?) ((List.replicate 2 (.int .i64 0)):List Value).toArray ps:=by intro ps;kernel_rfl
theorem vv:((List.replicate 2 (.int .i64 0)):List Value).all (·.oneCell')=true:=by kernel_rfl
theorem rz:Ab Tryz.prog 187 0=some 0:=by kernel_rfl
theorem r6:Ab Tryz.prog 187 1=some 1:=by kernel_rfl
theorem C8:A8 Tryz.prog 189=some 15:=by kernel_rfl
theorem F_:Fb Tryz.prog 189=true:=by kernel_rfl
theorem vw:Bx Tryz.prog 189=some 152:=by kernel_rfl
theorem ABX:∀ps,Tryz.prog.built 189 ps=Instr.fill (fun i=>(#[(0,1),(1,1),(2,1),(3,2),(5,1),(6,2),(8,1),(9,1),(10,1),(11,1),(12,1),(13,2)]:Array (Nat×Nat))[i]?) ([.int .i64 0,.string (ByteArray.mk #[]),.string (ByteArray.mk #[]),.int .i64 0,.int .i64 0,.int .i64 0,.int .i64 0,.int .i64 0,.int .i64 0,.int .i64 0,.bool false,.int .i64 0,.slice none 0 0,.int .i64 0,.int .i64 0]:List Value).toArray ps:=by intro ps;kernel_rfl
theorem LU:([.int .i64 0,.string (ByteArray.mk #[]),.string (ByteArray.mk #[]),.int .i64 0,.int .i64 0,.int .i64 0,.int .i64 0,.int .i64 0,.int .i64 0,.int .i64 0,.bool false,.int .i64 0,.slice none 0 0,.int .i64 0,.int .i64 0]:List Value).all (·.oneCell')=true:=by kernel_rfl
theorem RJ:Bc Tryz.prog 189=some [.int .i64 0,.string (ByteArray.mk #[]),.string (ByteArray.mk #[]),.int .i64 0,.int .i64 0,.int .i64 0,.int .i64 0,.int .i64 0,.int .i64 0,.int .i64 0,.bool false,.int .i64 0,.slice none 0 0,.int .i64 0,.int .i64 0]:=by kernel_rfl
theorem r7:Ab Tryz.prog 189 0=some 0:=by kernel_rfl
theorem r8:Ab Tryz.prog 189 1=some 1:=by kernel_rfl
theorem r9:Ab Tryz.prog 189 2=some 2:=by kernel_rfl
theorem r_:Ab Tryz.prog 189 3=some 3:=by kernel_rfl
theorem sA:Ab Tryz.prog 189 4=some 5:=by kernel_rfl
theorem sB:Ab Tryz.prog 189 5=some 6:=by kernel_rfl
theorem sC:Ab Tryz.prog 189 6=some 8:=by kernel_rfl
theorem sD:Ab Tryz.prog 189 7=some 9:=by kernel_rfl
theorem sE:Ab Tryz.prog 189 8=some 10:=by kernel_rfl
theorem sF:Ab Tryz.prog 189 9=some 11:=by kernel_rfl
theorem Wp:Ab Tryz.prog 189 10=some 12:=by kernel_rfl
theorem RK:Ab Tryz.prog 189 11=some 13:=by kernel_rfl
theorem J2:A8 Tryz.prog 198=some 3:=by kernel_rfl
theorem v_:Bx Tryz.prog 198=some 24:=by kernel_rfl
theorem ABY:∀ps,Tryz.prog.built 198 ps=Instr.fill (fun i=>(#[(0,2),(2,1)]:Array (Nat×Nat))[i]?) ((List.replicate 3 (.int .i64 0)):List Value).toArray ps:=by intro ps;kernel_rfl
theorem wA:((List.replicate 3 (.int .i64 0)):List Value).all (·.oneCell')=true:=by kernel_rfl
theorem z198:Bc Tryz.prog 198=some (List.replicate 3 (.int .i64 0)):=by kernel_rfl
theorem sG:Ab Tryz.prog 198 0=some 0:=by kernel_rfl
theorem sH:Ab Tryz.prog 198 1=some 2:=by kernel_rfl
theorem J3:ES Tryz.prog 232=true:=by kernel_rfl
theorem ABZ:∀ps,Tryz.prog.built 234 ps=Instr.fill (fun i=>(#[(0,1),(1,1),(2,1)]:Array (Nat×Nat))[i]?) ([.int .i64 0,.slice none 0 0,.slice none 0 0]:List Value).toArray ps:=by intro ps;kernel_rfl
theorem ABa:([.int .i64 0,.slice none 0 0,.slice none 0 0]:List Value).all (·.oneCell')=true:=by kernel_rfl
theorem sI:Ab Tryz.prog 234 0=some 0:=by kernel_rfl
theorem It:Ab Tryz.prog 234 1=some 1:=by kernel_rfl
theorem sJ:Ab Tryz.prog 234 2=some 2:=by kernel_rfl
theorem ABb:A8 Tryz.prog 241=some 1:=by kernel_rfl
theorem lA:ES Tryz.prog 241=true:=by kernel_rfl
theorem Fv:A8 Tryz.prog 247=some 12:=by kernel_rfl
theorem Iu:Fb Tryz.prog 247=true:=by kernel_rfl
theorem Wq:∀ps,Tryz.prog.built 247 ps=Instr.fill (fun i=>(#[(0,1),(1,1),(2,2),(4,2),(6,2),(8,2),(10,1),(11,1)]:Array (Nat×Nat))[i]?) ([.int .i64 0,.string (ByteArray.mk #[]),.int .i64 0,.int .i64 0,.int .i64 0,.int .i64 0,.int .i64 0,.int .i64 0,.int .i64 0,.int .i64 0,.int .i64 0,.int .i64 0]:List Value).toArray ps:=by intro ps;kernel_rfl
theorem IJ:([.int .i64 0,.string (ByteArray.mk #[]),.int .i64 0,.int .i64 0,.int .i64 0,.int .i64 0,.int .i64 0,.int .i64 0,.int .i64 0,.int .i64 0,.int .i64 0,.int .i64 0]:List Value).all (·.oneCell')=true:=by kernel_rfl
theorem Sq:Bc Tryz.prog 247=some [.int .i64 0,.string (ByteArray.mk #[]),.int .i64 0,.int .i64 0,.int .i64 0,.int .i64 0,.int .i64 0,.int .i64 0,.int .i64 0,.int .i64 0,.int .i64 0,.int .i64 0]:=by kernel_rfl
theorem sK:Ab Tryz.prog 247 2=some 2:=by kernel_rfl
theorem sL:Ab Tryz.prog 247 3=some 4:=by kernel_rfl
theorem sM:Ab Tryz.prog 247 4=some 6:=by kernel_rfl
theorem sN:Ab Tryz.prog 247 5=some 8:=by kernel_rfl
theorem sO:Ab Tryz.prog 247 6=some 10:=by kernel_rfl
theorem sP:Ab Tryz.prog 247 7=some 11:=by kernel_rfl
theorem CG:A8 Tryz.prog 268=some 2:=by kernel_rfl
theorem Cy:Fb Tryz.prog 268=true:=by kernel_rfl
theorem cJ:Bx Tryz.prog 268=some 16:=by kernel_rfl
theorem TW:∀ps,Tryz.prog.built 268 ps=Instr.fill (fun i=>(#[(0,1),(1,1)]:Array (Nat×Nat))[i]?) ((List.replicate 2 (.int .i64 0)):List Value).toArray ps:=by intro ps;kernel_rfl
theorem Fi:((List.replicate 2 (.int .i64 0)):List Value).all (·.oneCell')=true:=by kernel_rfl
theorem JZ:Bc Tryz.prog 268=some (List.replicate 2 (.int .i64 0)):=by kernel_rfl
theorem sQ:Ab Tryz.prog 268 1=some 1:=by kernel_rfl
theorem Fw:A8 Tryz.prog 270=some 4:=by kernel_rfl
theorem J4:Fb Tryz.prog 270=true:=by kernel_rfl
theorem ABc:Bx Tryz.prog 270=some 48:=by kernel_rfl
theorem cL:∀ps,Tryz.prog.built 270 ps=Instr.fill (fun i=>(#[(0,1),(1,1),(2,2)]:Array (Nat×Nat))[i]?) ([.int .i64 0,.slice none 0 0,.int .i64 0,.int .i64 0]:List Value).toArray ps:=by intro ps;kernel_rfl
theorem RL:([.int .i64 0,.slice none 0 0,.int .i64 0,.int .i64 0]:List Value).all (·.oneCell')=true:=by kernel_rfl
theorem sS:Bc Tryz.prog 270=some [.int .i64 0,.slice none 0 0,.int .i64 0,.int .i64 0]:=by kernel_rfl
theorem ABd:A8 Tryz.prog 283=some 1:=by kernel_rfl
theorem U6:ES Tryz.prog 283=true:=by kernel_rfl
theorem Ci:A8 Tryz.prog 285=some 4:=by kernel_rfl
theorem DN:Fb Tryz.prog 285=true:=by kernel_rfl
theorem wB:Bx Tryz.prog 285=some 64:=by kernel_rfl
theorem lB:∀ps,Tryz.prog.built 285 ps=Instr.fill (fun i=>(#[(0,1),(1,1),(2,1),(3,1)]:Array (Nat×Nat))[i]?) ([.int .i64 0,.slice none 0 0,.bool false,.slice none 0 0]:List Value).toArray ps:=by intro ps;kernel_rfl
theorem LV:([.int .i64 0,.slice none 0 0,.bool false,.slice none 0 0]:List Value).all (·.oneCell')=true:=by kernel_rfl
theorem N6:Bc Tryz.prog 285=some [.int .i64 0,.slice none 0 0,.bool false,.slice none 0 0]:=by kernel_rfl
theorem sU:Ab Tryz.prog 285 0=some 0:=by kernel_rfl
theorem U7:Ab Tryz.prog 285 1=some 1:=by kernel_rfl
theorem sV:Ab Tryz.prog 285 2=some 2:=by kernel_rfl
theorem Mu:Ab Tryz.prog 285 3=some 3:=by kernel_rfl
theorem wC:A8 Tryz.prog 290=some 2:=by kernel_rfl
theorem ABe:∀ps,Tryz.prog.built 290 ps=Instr.fill (fun i=>(#[(0,1),(1,1)]:Array (Nat×Nat))[i]?) ([.string (ByteArray.mk #[]),.int .i64 0]:List Value).toArray ps:=by intro ps;kernel_rfl
theorem wD:([.string (ByteArray.mk #[]),.int .i64 0]:List Value).all (·.oneCell')=true:=by kernel_rfl
theorem AFP:Bc Tryz.prog 290=some [.string (ByteArray.mk #[]),.int .i64 0]:=by kernel_rfl
theorem sW:Ab Tryz.prog 290 1=some 1:=by kernel_rfl
end Go.Proofs.YtmocaapoeefgkaaGreatDoor
namespace Cp
open Go Go.RowKit Go.Great
section
variable {P:Program} {L:Lg P} {n:Fm} {fz:Nat} {E:Env} {M0:Av} {w0:World} {S:Nat→Prop} {rs:List Ap} {o:Oper}
def lens (m:Nat):Pr where
 h _ _ v:=∃a c,v= .slice a m c
 st _M _w _M' _w' _v _ h:=h
instance ABf (m:Nat):One (lens m):=⟨by rintro M w v ⟨a,c,rfl⟩;exact ⟨rfl,rfl⟩⟩
def D8 (e:TypeId) (sz:Nat) (rows:List (List Pr)) (v:Value):Ap where
 blk:=match v with| .slice (some a) _ _=>some a.block|_=>none
 new:=true
 h M w:=∃(b cap:Nat) (spare:List Value),v= .slice (some ⟨b,0,none⟩) rows.length cap∧rows.length≤cap∧cap≤maxLen∧spare.length=(cap-rows.length)*sz∧(AE true b e (rows.flatten++spare.map is)).h M w
 st M w M' w' he hk h:=by
  obtain ⟨b,cap,spare,rfl,h1,h2,h3,h4⟩:=h
  exact ⟨b,cap,spare,rfl,h1,h2,h3,(AE true b e _).st _ _ _ _ he hk h4⟩
theorem HY {sz:Nat}:∀{rows:List (List Pr)} {i j:Nat} {row:List Pr},(∀r∈rows,r.length=sz)→rows[i]? =some row→j<sz→rows.flatten[i*sz+j]? =row[j]?
 |[],_,_,_,_,h,_=>by simp at h
 |a::l,0,j,row,hl,h,hj=>by
  simp at h;subst h
  have:=hl a AV
  rw [List.flatten_cons,Nat.zero_mul,Nat.zero_add,List.getElem?_append_left AA]
 |a::l,i+1,j,row,hl,h,hj=>by
  have h1:=hl a AV
  rw [List.flatten_cons,Nat.succ_mul,List.getElem?_append_right AA,h1,show i*sz+sz+j-sz=i*sz+j by omega]
  exact HY (fun r hr=>hl r (List.mem_cons_of_mem _ hr)) Du hj
theorem Cw {sz:Nat}:∀{rows:List (List Pr)},(∀r∈rows,r.length=sz)→rows.flatten.length=rows.length*sz
 |[],_=>by simp
 |a::l,h=>by
  rw [List.flatten_cons,List.length_append,Cw (fun r hr=>h r (List.mem_cons_of_mem _ hr)),h a AV,List.length_cons,Nat.succ_mul];omega
theorem TX {M:Av} {w:World}:∀{ps:List Pr} {vs:List Value},vs.length=ps.length→(∀(k:Nat) p,ps[k]? =some p→∃u,vs[k]? =some u∧p.h M w u)→HL M w ps vs
 |[],[],_,_=>trivial
 |[],_::_,h,_=>by simp at h
 |_::_,[],h,_=>by simp at h
 |p::ps,v::vs,h,hk=>by
  refine ⟨?_,TX Du fun k q hq=>by simpa using hk (k+1) q (by simpa using hq)⟩
  obtain ⟨u,hu,hp⟩:=hk 0 p rfl
  simp at hu;subst hu;exact hp
theorem Flat.hl {M:Av} {w:World} {sz:Nat} {rows:List (List Pr)} {news:List Value} (hsz:0<sz) (h:Flat M w sz rows news):HL M w rows.flatten news:=by
 have hl:∀r∈rows,r.length=sz:=fun r hr=>by obtain ⟨i,hi⟩:=List.mem_iff_getElem?.1 hr;exact (h.2.2 i r hi).1
 refine TX (by rw [h.1,Cw hl]) fun k p hk=> ?_
 have WV:k<rows.length*sz:=by rw [←Cw hl];rcases Nat.lt_or_ge k rows.flatten.length with h|h;exact h;rw [List.getElem?_eq_none h] at hk;cases hk
 have hi:k/sz<rows.length:=Nat.div_lt_of_lt_mul (by rw [Nat.mul_comm];exact WV)
 have hj:k % sz<sz:=Nat.mod_lt _ hsz
 have he:k/sz*sz+k % sz=k:=by rw [Nat.mul_comm];exact Nat.div_add_mod k sz
 have hr:=List.getElem?_eq_getElem hi
 rw [←he,HY hl hr hj] at hk
 obtain ⟨u,hu,hp⟩:=(h.2.2 _ _ hr).2 _ p hk
 exact ⟨u,by rw [←he];exact hu,hp⟩
theorem HL.flat {M:Av} {w:World} {sz:Nat} {rows:List (List Pr)} {qs:List Pr} {cs:List Value} (hl:∀r∈rows,r.length=sz) (h:HL M w (rows.flatten++qs) cs) (h1:∀c∈cs,c.oneCell'=true):Flat M w sz rows (cs.take (rows.length*sz)):=by
 have hfl:=Cw hl
 have hlen:=h.length
 refine ⟨by rw [List.length_take,hlen,List.length_append,hfl];omega,fun u hu=>h1 u (List.mem_of_mem_take hu),fun i row hi=> ?_⟩
 have hrl:=hl row (List.mem_of_getElem? hi)
 refine ⟨hrl,fun j p hp=> ?_⟩
 have hjl:j<sz:=by rw [←hrl];rcases Nat.lt_or_ge j row.length with h|h;exact h;rw [List.getElem?_eq_none h] at hp;cases hp
 have Fp:i<rows.length:=by rcases Nat.lt_or_ge i rows.length with h|h;exact h;rw [List.getElem?_eq_none h] at hi;cases hi
 have hlt:i*sz+j<rows.length*sz:=by have:(i+1)*sz≤rows.length*sz:=Nat.mul_le_mul_right sz Fp;rw [Nat.add_mul] at this;omega
 obtain ⟨u,hu,hh⟩:=h.at_ (i*sz+j) p (by rw [List.getElem?_append_left (by rw [hfl];exact hlt),HY hl hi hjl];exact hp)
 exact ⟨u,by rw [List.getElem?_take,if_pos hlt];exact hu,hh⟩
theorem GM {zs:List Value} {z:Array Value} {k:Nat} (hz:z.toList=zs) (h1:zs.all (·.oneCell')=true):∀c∈(Builtin.zeroCells z k).toList,c.oneCell'=true:=by
 intro c hc
 simp only [Builtin.zeroCells,Array.toList_map,Array.toList_range,List.mem_map,List.mem_range] at hc
 obtain ⟨i,hi,rfl⟩:=hc
 have hpos:0<z.size:=by rcases Nat.eq_zero_or_pos z.size with h|h;rw [h] at hi;simp at hi;exact h
 have hm:i % z.size<z.size:=Nat.mod_lt _ hpos
 rw [getElem!_pos z _ hm]
 exact List.all_eq_true.1 h1 _ (by rw [←hz];simp)
theorem sX {M:Av} {w:World} {t ty e:TypeId} {sz bytes:Nat} {zs:List Value} {rows:List (List Pr)} {u:Value} {j:Nat} (ht:P.underlying t=some (.slice e)) (hz:A8 P e=some sz) (hby:Bx P e=some bytes) (Ee:Bc P e=some zs) (hzl:zs.length=sz) (hone:zs.all (·.oneCell')=true) (hsz:0<sz)
  (h:Az M0 w0 S rs M w) (hj:rs[j]? =some Bp) (hu:(slice sz rows).h M w u) (hpos:0<rows.length) (Gy:rows.length≤maxLen) (hfit:rows.length*bytes≤140737488355328):
  ∃v' w' M',(Builtin.append_ #[t,t] ty #[.slice none 0 0,u]).run P w= .ok v' w'∧(lens rows.length).h M' w' v'∧Ext M w M' w'∧Az M0 w0 S (rs.set j (D8 e sz rows v')) M' w':=by
 unfold A8 at hz
 unfold Bx at hby
 unfold Bc at Ee
 cases hi:P.info? e with
 |none=>rw [hi] at hz;cases hz
 |some i=>
  rw [hi] at hz hby Ee
  simp only [Option.map_some,Option.some.injEq,Option.map_eq_some_iff] at hz hby Ee
  obtain ⟨z,bu,Ee⟩:=Ee
  have jG:z.cells.size=sz:=by rw [←hzl,←Ee];simp
  obtain ⟨A',c',rfl,hmc,Yt,hA',G3⟩:=hu
  have Si:(slice sz rows).h M w (.slice A' rows.length c'):=⟨A',c',rfl,hmc,Yt,hA',G3⟩
  obtain ⟨TK,rfl⟩:∃TK,A'=some TK:=by
   obtain ⟨_,b,hb,_⟩:=G3 0 _ (List.getElem?_eq_getElem hpos)
   exact ⟨b,hb⟩
  obtain ⟨news,hfl,hcell⟩:=F4 hsz Si
  have hrun:=run_append_nil (P:=P) w t ty e i z ht hi bu TK rows.length c' news (by rw [hz];exact hfl.1) (fun k u hk=>(hcell k u hk).1) hpos Uh (by rw [hby];omega)
  generalize hcap:grownCap w rows.length 0 e=cap at hrun
  have hge:rows.length≤cap:=by rw [←hcap];exact grownCap_ge _ _ _ _
  have hle:cap≤maxLen:=by rw [←hcap];exact grownCap_le_maxLen _ _ _ _ Gy
  generalize Sl:Builtin.zeroCells z.cells (cap-rows.length)=zc at hrun
  have hzs:zc.size=(cap-rows.length)*sz:=by rw [←Sl,size_zeroCells,jG]
  have hzo:∀c∈zc.toList,c.oneCell'=true:=by rw [←Sl];exact GM Ee hone
  have hb:Below w.heap.size w (w.drew.alloc (.cells (news.toArray++zc) e)):=((Below.refl _ _).drew).alloc (Nat.le_refl _) _
  have h2:=Ext.below (M:=M) hb
  have E6:Ext M w (fun b o=>M b o∨b=w.heap.size) (w.drew.alloc (.cells (news.toArray++zc) e)):=by
   refine ⟨h2.size,fun a v hc hm=>⟨fun hx=> ?_,(h2.keep a v hc hm).2⟩,fun b o ho hp hm=>⟨fun hx=> ?_,(h2.obj b o ho hp hm).2⟩⟩
   ·
    rcases hx with hx|hx
    · exact CZ
    · exact FD
   ·
    rcases hx with hx|hx
    · exact CZ
    · exact FE
  have hs1:(w.drew.alloc (.cells (news.toArray++zc) e)).heap.size=w.heap.size+1:=by simp
  refine ⟨_,_,fun b o=>M b o∨b=w.heap.size,hrun,⟨_,_,rfl⟩,E6,?_⟩
  refine h.replace hj E6 hb.os hb.tape hb.output (fun k hk _=>hb.block k hk) rfl (fun b o hm _=> .inl hm) (fun b o hx=> ?_) ?_ rfl (fun b hbk=> ?_)
  ·
   rcases hx with hx|hx
   · exact MX
   · omega
  ·
   refine ⟨w.heap.size,cap,zc.toList,rfl,hge,hle,by simpa using hzs,fun o=> .inr rfl,news++zc.toList,?_,?_,?_⟩
   ·
    have hh:(w.drew.alloc (.cells (news.toArray++zc) e)).heap[w.heap.size]? =some (.cells (news.toArray++zc) e (0,0)):=heap_alloc_new w.drew _
    rw [hh];simp
   · exact ((hfl.st E6).hl hsz).app (LP _ _ _)
   ·
    intro c hc
    rcases List.mem_append.1 hc with hc|hc
    · exact hfl.2.1 c hc
    · exact hzo c hc
  ·
   have E2:some w.heap.size=some b:=hbk
   injection E2 with e1
   subst e1
   exact ⟨by rw [hs1];omega,.inr (Nat.le_refl _)⟩
theorem St.RM {e:TypeId} {sz:Nat} {rows:List (List Pr)} {v:Value} (j:Nat) (hj:rs[j]? =some (D8 e sz rows v)) {a:Act} {w:World} (h:St n E (Hp M0 w0 S rs) a w):
  ∃(b cap:Nat) (spare:List Value),v= .slice (some ⟨b,0,none⟩) rows.length cap∧rows.length≤cap∧cap≤maxLen∧spare.length=(cap-rows.length)*sz∧St n E (Hp M0 w0 S (rs.set j (AE true b e (rows.flatten++spare.map is)))) a w:=by
 obtain ⟨M,h1,h2,h3,h4⟩:=h
 have h4:Az M0 w0 S rs M w:=h4
 obtain ⟨b,cap,spare,rfl,h5,h6,h7,h8⟩:=(h4.hold _ (List.mem_of_getElem? hj)).1
 exact ⟨b,cap,spare,rfl,h5,h6,h7,M,h1,h2,h3,h4.CU hj rfl rfl h8⟩
theorem Tr.RM {Q:Exit→Act→World→Prop} {c:Code} {e:TypeId} {sz:Nat} {rows:List (List Pr)} {v:Value} (j:Nat) (hj:rs[j]? =some (D8 e sz rows v))
  (k:∀(b cap:Nat) (spare:List Value),v= .slice (some ⟨b,0,none⟩) rows.length cap→rows.length≤cap→cap≤maxLen→spare.length=(cap-rows.length)*sz→Tr L n E (Hp M0 w0 S (rs.set j (AE true b e (rows.flatten++spare.map is)))) c Q):Tr L n E (Hp M0 w0 S rs) c Q:=
 fun a w hs=>let ⟨b,cap,spare,h1,h2,h3,h4,h5⟩:=hs.RM j hj;k b cap spare h1 h2 h3 h4 a w h5
theorem Fin.RM {Q:Exit→Act→World→Prop} {ex:Exit} {e:TypeId} {sz:Nat} {rows:List (List Pr)} {v:Value} (j:Nat) (hj:rs[j]? =some (D8 e sz rows v))
  (k:∀(b cap:Nat) (spare:List Value),v= .slice (some ⟨b,0,none⟩) rows.length cap→rows.length≤cap→cap≤maxLen→spare.length=(cap-rows.length)*sz→Fin n E (Hp M0 w0 S (rs.set j (AE true b e (rows.flatten++spare.map is)))) Q ex):Fin n E (Hp M0 w0 S rs) Q ex:=
 fun a w hs=>let ⟨b,cap,spare,h1,h2,h3,h4,h5⟩:=hs.RM j hj;k b cap spare h1 h2 h3 h4 a w h5
theorem Az.frz {M:Av} {w:World} {b cap sz:Nat} {e:TypeId} {rows:List (List Pr)} {qs:List Pr} {j:Nat} (h:Az M0 w0 S rs M w) (hj:rs[j]? =some (AE true b e (rows.flatten++qs))) (hl:∀r∈rows,r.length=sz) (hc:rows.length≤cap) (hm:cap≤maxLen) (hq:qs.length=(cap-rows.length)*sz):
  ∃M',Ext M w M' w∧Az M0 w0 S (rs.set j (At e sz (.slice (some ⟨b,0,none⟩) rows.length cap))) M' w∧(slice sz rows).h M' w (.slice (some ⟨b,0,none⟩) rows.length cap):=by
 obtain ⟨⟨hM,cs,hh,hcs,hone⟩,hbb⟩:=h.hold _ (List.mem_of_getElem? hj)
 have Wr:=(hbb b rfl).1
 have hfl:=HL.flat hl hcs hone
 have hlen:=hcs.length
 rw [List.length_append,Cw hl,hq,←Nat.add_mul,show rows.length+(cap-rows.length)=cap by omega] at hlen
 have he:Ext M w (fun b' o=>M b' o∧¬(b'=b∧o<rows.length*sz)) w:=Ext.less fun _ _ h=>h.1
 refine ⟨_,he,?_,E7 (hfl.st he) hc hm fun k u hk=> ?_⟩
 ·
  refine h.replace hj he rfl rfl rfl (fun _ _ _=>rfl) rfl (fun b' o hm' hne=>⟨hm',fun hx=>hne (by rw [hx.1];rfl)⟩) (fun b' o hx=>h.bd _ _ hx.1) ?_ rfl (fun b' hbk=> ?_)
  ·
   intro a' n' c' hv hlt
   injection hv with e1 e2 e3
   injection e1 with e1
   subst e1;subst e2;subst e3
   refine ⟨⟨cs.take (rows.length*sz),hfl.1,.inr ⟨b,cap,cs.toArray,rfl,Nat.zero_le _,hh,hc,hm,by simpa using hlen,by simp⟩⟩,fun o ho=>⟨hM o,fun hx=>by omega⟩⟩
  ·
   have E2:Dg (.slice (some ⟨b,0,none⟩) rows.length cap)=some b':=hbk
   simp only [Dg] at E2
   split at E2
   · simp at E2;subst E2;exact ⟨Wr,.inl rfl⟩
   · cases E2
 ·
  have WV:k<rows.length*sz:=by rw [←hfl.1];rcases Nat.lt_or_ge k (cs.take (rows.length*sz)).length with h|h;exact h;rw [List.getElem?_eq_none h] at hk;cases hk
  rw [List.getElem?_take,if_pos WV] at hk
  exact ⟨by simp [World.cell?,hh,hk],fun hx=>hx.2 ⟨rfl,WV⟩⟩
theorem St.sY {b b0 cap sz:Nat} {e T:TypeId} {new:Bool} {rows:List (List Pr)} {qs ps ps':List Pr} (j i k:Nat) {p:Pr} (hj:rs[j]? =some (AE true b e (rows.flatten++qs))) (hi:rs[i]? =some (AE new b0 T ps)) (hij:j≠i) (hk:ps[k]? =some p) (hp:Pr.le p (is (.slice (some ⟨b,0,none⟩) rows.length cap)))
  (hl:∀r∈rows,r.length=sz) (hc:rows.length≤cap) (hm:cap≤maxLen) (hq:qs.length=(cap-rows.length)*sz) (hps:ps.set k (Ac (.slice (some ⟨b,0,none⟩) rows.length cap) (slice sz rows))=ps')
  {a:Act} {w:World} (h:St n E (Hp M0 w0 S rs) a w):St n E (Hp M0 w0 S ((rs.set j (At e sz (.slice (some ⟨b,0,none⟩) rows.length cap))).set i (AE new b0 T ps'))) a w:=by
 obtain ⟨M,h1,h2,h3,h4⟩:=h
 obtain ⟨M',h5,h6,h7⟩:=Az.frz h4 hj hl hc hm hq
 have hi':(rs.set j (At e sz (.slice (some ⟨b,0,none⟩) rows.length cap)))[i]? =some (AE new b0 T ps):=by rw [List.getElem?_set,if_neg hij];exact hi
 obtain ⟨h8,cs,h9,h10,h11⟩:=(h6.hold _ (List.mem_of_getElem? hi')).1
 refine ⟨M',h1,h2,fun s q hs=>q.st _ _ _ _ _ h5 (h3 s q hs),h6.CU hi' rfl rfl ⟨h8,cs,h9,?_,h11⟩⟩
 subst hps
 refine TX (by rw [h10.length];simp) fun k' p' hk'=> ?_
 rw [List.getElem?_set] at hk'
 split at hk'
 ·
  rename_i e1
  subst e1
  split at hk'
  ·
   obtain ⟨u,hu,hpu⟩:=h10.at_ k p hk
   simp at hk';subst hk'
   have:=hp _ _ _ hpu
   refine ⟨u,hu,this,?_⟩
   have hu2:u= .slice (some ⟨b,0,none⟩) rows.length cap:=this
   rw [hu2];exact h7
  · cases hk'
 · exact h10.at_ k' p' hk'
theorem Tr.sY {Q:Exit→Act→World→Prop} {c:Code} {b b0 cap sz:Nat} {e T:TypeId} {new:Bool} (rows:List (List Pr)) {qs ps ps':List Pr} (j i k:Nat) {p:Pr} (hj:rs[j]? =some (AE true b e (rows.flatten++qs))) (hi:rs[i]? =some (AE new b0 T ps)) (hij:j≠i) (hk:ps[k]? =some p) (hp:Pr.le p (is (.slice (some ⟨b,0,none⟩) rows.length cap)))
  (hl:∀r∈rows,r.length=sz) (hc:rows.length≤cap) (hm:cap≤maxLen) (hq:qs.length=(cap-rows.length)*sz) (hps:ps.set k (Ac (.slice (some ⟨b,0,none⟩) rows.length cap) (slice sz rows))=ps')
  (k':Tr L n E (Hp M0 w0 S ((rs.set j (At e sz (.slice (some ⟨b,0,none⟩) rows.length cap))).set i (AE new b0 T ps'))) c Q):Tr L n E (Hp M0 w0 S rs) c Q:=
 Tr.conv (fun _ _ hs=>hs.sY j i k hj hi hij hk hp hl hc hm hq hps) k'
end
abbrev str (l:List UInt8):Pr:=is (.string ⟨l.toArray⟩)
theorem Lv (l:List UInt8):(ByteArray.mk l.toArray).toList=l:=by rw [ByteArray.toList_eq]
theorem RN (l:List UInt8):(ByteArray.mk l.toArray).size=l.length:=rfl
section
variable {P:Program} {L:Lg P} {E:Env} {I:Ce} {o:Oper}
theorem xh {t u:TypeId} {x y:Operand} {a b:List UInt8} (ho:o.op= .binOp .eql t x y u) (hx:VL E x (str a)) (hy:VL E y (str b)):Ae P I o E (bool (decide (a=b))):=
 Ae.same fun M w ac he _=>by
  have h1:ac.eval x=_:=hx.ev he Ar
  have h2:ac.eval y=_:=hy.ev he Ar
  refine ⟨_,by simp [execOp,ho,h1,h2,eqGuard,binOp,Op.stringOp,Lv];rfl,?_⟩
  show Value.bool _=Value.bool _
  congr 1
  rw [Bool.eq_iff_iff];simp
theorem xj {t u:TypeId} {x y:Operand} {a b:List UInt8} (ho:o.op= .binOp .neq t x y u) (hx:VL E x (str a)) (hy:VL E y (str b)):Ae P I o E (bool (!decide (a=b))):=
 Ae.same fun M w ac he _=>by
  have h1:ac.eval x=_:=hx.ev he Ar
  have h2:ac.eval y=_:=hy.ev he Ar
  refine ⟨_,by simp [execOp,ho,h1,h2,eqGuard,binOp,Op.stringOp,Lv];rfl,?_⟩
  show Value.bool _=Value.bool _
  congr 1
  rw [Bool.eq_iff_iff];simp
theorem Ws:∀(a b:List UInt8),Op.bytesLess a b=decide (Lib.compareBytes a b= -1)
 |_,[]=>by cases ‹List UInt8›<;>simp [Op.bytesLess,Lib.compareBytes]
 |[],_::_=>by simp [Op.bytesLess,Lib.compareBytes]
 |a::x,b::y=>by
  rw [Op.bytesLess,Ws x y,Lib.compareBytes]
  by_cases h1:a<b
  · simp [h1]
  ·
   by_cases h2:b<a
   ·
    have h3:a≠b:=fun e=>by subst e;exact h1 h2
    simp [h1,h2,h3]
   ·
    have h3:a=b:=UInt8.le_antisymm (UInt8.not_lt.1 h2) (UInt8.not_lt.1 h1)
    simp [h1,h2,h3]
theorem RO {t u:TypeId} {x y:Operand} {a b:List UInt8} (ho:o.op= .binOp .geq t x y u) (hx:VL E x (str a)) (hy:VL E y (str b)):Ae P I o E (bool (!decide (Lib.compareBytes a b= -1))):=
 Ae.same fun M w ac he _=>by
  have h1:ac.eval x=_:=hx.ev he Ar
  have h2:ac.eval y=_:=hy.ev he Ar
  exact ⟨_,by simp [execOp,ho,h1,h2,eqGuard,binOp,Op.stringOp,Lv,Ws],rfl⟩
theorem sZ {t:TypeId} {x:Operand} {a:List UInt8} (ho:o.op= .call { callee:= .builtin .len,args:= #[x],argTypes:= #[t] }) (ht:P.underlying t=some .string) (hx:VL E x (str a)):Ae P I o E (int ((a.length:Nat):Int)):=
 Ae.same fun M w ac he _=>by
  have h1:ac.eval x=_:=hx.ev he DH
  exact ⟨.int .i64 a.length,by simp [execOp,ho,resolve,invoke,builtin,Builtin.len_,h1,run_underlying ht,goInt,RN],rfl⟩
theorem U8 {t:TypeId} {x y:Operand} {k:IntKind} {a:List UInt8} {i:Int} {c:UInt8} (ho:o.op= .index t x y) (ht:P.underlying t=some .string) (hx:VL E x (str a)) (hy:VL E y (is (.int k i))) (h0:0≤i) (hc:a[i.toNat]? =some c):Ae P I o E (is (.int .u8 c.toNat)):=
 Ae.same fun M w ac he _=>by
  have h1:ac.eval x=_:=hx.ev he Ar
  have h2:ac.eval y=_:=hy.ev he Ar
  refine ⟨_,?_,rfl⟩
  have hlt:i.toNat<a.length:=by rcases Nat.lt_or_ge i.toNat a.length with h|h;exact h;rw [List.getElem?_eq_none h] at hc;cases hc
  have h3:(ByteArray.mk a.toArray)[i.toNat]? =some c:=by
   rw [getElem?_pos (ByteArray.mk a.toArray) i.toNat (by rw [RN];exact hlt)]
   rw [List.getElem?_eq_getElem hlt] at hc
   simp only [Option.some.injEq] at hc
   rw [←hc]
   rfl
  simp [execOp,ho,h1,h2,Instr.index,asIntOf,run_underlying ht,h0,h3]
theorem lC {s t e:TypeId} {x:Operand} {a:List UInt8} (ho:o.op= .convert s t x) (hs:P.underlying s=some .string) (ht:P.underlying t=some (.slice e)) (he:P.underlying e=some (.int .u8)) (hx:VL E x (str a)) (hm:a.length≤maxLen):Ae P I o E (slice 1 (a.map fun c=>[is (.int .u8 c.toNat)])):=
 Ae.val fun M w ac hev hI=>by
  have h1:ac.eval x=_:=hx.ev hev Ar
  have hrun:=Lib.run_convert_string_bytes (P:=P) w s t e ⟨a.toArray⟩ hs ht he
  have hcap:=grownCap_ge w a.length 0 e
  have hcm:=grownCap_le_maxLen w a.length 0 e hm
  refine ⟨.slice (some ⟨w.heap.size,0,none⟩) a.length (grownCap w a.length 0 e),Lib.bytesWorld w e ⟨a.toArray⟩,by simp [execOp,ho,h1,hrun];exact ⟨rfl,rfl⟩,?_,?_⟩
  ·
   have hbd:Bd M w:=I.bd _ _ hI
   refine ⟨_,grownCap w a.length 0 e,by rw [List.length_map],by rw [List.length_map];exact hcap,hcm,(fun h=>by cases h),fun i row hr=> ?_⟩
   rw [List.getElem?_map] at hr
   cases hc:a[i]? with
   |none=>rw [hc] at hr;cases hr
   |some c=>
    rw [hc] at hr
    simp only [Option.map_some,Option.some.injEq] at hr
    subst hr
    have Fp:i<a.length:=by rcases Nat.lt_or_ge i a.length with h|h;exact h;rw [List.getElem?_eq_none h] at hc;cases hc
    refine ⟨rfl,_,rfl,fun j p hp=> ?_⟩
    have hj:j=0:=by
     rcases Nat.eq_zero_or_pos j with h|h
     · exact h
     · exact Pb
    subst hj
    simp only [List.getElem?_cons_zero,Option.some.injEq] at hp
    subst hp
    refine ⟨.int .u8 c.toNat,?_,fun hmm=> ?_,rfl,rfl⟩
    ·
     rw [show Addr.add ⟨w.heap.size,0,none⟩ (i*1+0)=⟨w.heap.size,i,none⟩ by unfold Addr.add;split<;>simp_all]
     rw [Lib.bytesWorld_cell w e ⟨a.toArray⟩ i (by rw [RN];exact Fp)]
     have:([]++a).getD i 0=c:=by simp [hc]
     simp [hc]
    · have:=hbd _ _ hmm;simp at this
  · exact Lib.bytesWorld_below w e ⟨a.toArray⟩
theorem U9 {a:List UInt8} {k:Nat} {c:UInt8} (h:a[k]? =some c):a[((k:Nat):Int).toNat]? =some c:=h
theorem U_ {M:Av} {w:World} {v:Value} {xs:List Value} (h:(agg (xs.map is)).h M w v):v= .agg xs.toArray:=by
 obtain ⟨cs,rfl,ho,h2⟩:=h
 congr 1
 have:cs=xs:=by
  clear ho
  induction xs generalizing cs with
  |nil=>cases cs with
   |nil=>rfl
   |cons c cs=>exact h2.elim
  |cons x xs ih=>cases cs with
   |nil=>exact h2.elim
   |cons c cs=>rw [ih cs h2.2,show c=x from h2.1]
 rw [this]
theorem Mv {t u:TypeId} {x y:Operand} {r:Bool} (xs ys:List Value) (ho:o.op= .binOp .eql t x y u) (hx:VL E x (agg (xs.map is))) (hy:VL E y (agg (ys.map is))) (hg:P.eqGuardType P.depth t=false) (hr:∀w,(Op.equal t (.agg xs.toArray) (.agg ys.toArray)).run P w= .ok r w):Ae P I o E (bool r):=
 Ae.same fun M w ac he _=>by
  have h1:=U_ (hx.ev he Ar)
  have h2:=U_ (hy.ev he Ar)
  exact ⟨_,by simp [execOp,ho,h1,h2,eqGuard,hg,binOp,hr w],rfl⟩
theorem RP {t u:TypeId} {x y:Operand} {r:Bool} (xs ys:List Value) (ho:o.op= .binOp .neq t x y u) (hx:VL E x (agg (xs.map is))) (hy:VL E y (agg (ys.map is))) (hg:P.eqGuardType P.depth t=false) (hr:∀w,(Op.equal t (.agg xs.toArray) (.agg ys.toArray)).run P w= .ok r w):Ae P I o E (bool (!r)):=
 Ae.same fun M w ac he _=>by
  have h1:=U_ (hx.ev he Ar)
  have h2:=U_ (hy.ev he Ar)
  exact ⟨_,by simp [execOp,ho,h1,h2,eqGuard,hg,binOp,hr w],rfl⟩
theorem eqS {P:Program} {w:World} {d:Nat} {t:TypeId} {fs:Array Field} {xs ys:Array Value} {r:Bool} (ht:P.underlying t=some (.struct fs)) (hp:P.stoodInHeld t=false) (h:(Op.eqFields d xs ys fs.toList).run P w= .ok r w):(Op.equalIn (d+1) t (.agg xs) (.agg ys)).run P w= .ok r w:=by
 have hf:P.fieldsOf t=fs:=by unfold Program.fieldsOf;rw [ht]
 rw [run_equalIn_struct w d t xs ys (by rw [hf];exact ht) hp,hf];exact h
theorem Mw {P:Program} {w:World} {d:Nat} {xs ys:Array Value}:(Op.eqFields d xs ys []).run P w= .ok true w:=by simp [Op.eqFields]
theorem E_ {P : Program} {w : World} {d : Nat} {xs ys : Array Value} {f : Field} {fs : List Field} {vx vy : Value} {r q : Bool} (hn : f.name ≠ "_") (ha : (part f.type xs f.offset).run P w = .ok vx w) (hb : (part f.type ys f.offset).run P w = .ok vy w)
  (he:(Op.equalIn d f.type vx vy).run P w= .ok r w) (hr:(Op.eqFields d xs ys fs).run P w= .ok q w):(Op.eqFields d xs ys (f::fs)).run P w= .ok (r&&q) w:=by
 simp only [Op.eqFields,hn,ne_eq,not_false_eq_true,if_true,Sem.run_bind,ha,hb,he,Result.andThen_ok]
 cases r
 · simp
 · simpa using hr
theorem CH {P:Program} {w:World} {t:TypeId} {cs:Array Value} {off:Nat} {v:Value} (h1:ES P t=true) (hv:cs[off]? =some v):(part t cs off).run P w= .ok v w:=by
 simp [part,EP h1,hv]
theorem GN {P:Program} {w:World} {d:Nat} {t:TypeId} {k:IntKind} {a b:Int} (h:P.underlying t=some (.int k)):(Op.equalIn (d+1) t (.int k a) (.int k b)).run P w= .ok (decide (a=b)) w:=by
 rw [run_equalIn_int w d t k k a b h];rfl
end
section
variable {P:Program} {L:Lg P} {E:Env} {I:Ce} {o:Oper}
theorem RQ {M:Av} {w:World} {sz:Nat} {rows:List (List Pr)} {A:Option Addr} {cap lo hi:Nat} (h:(slice sz rows).h M w (.slice A rows.length cap)) (h1:lo≤hi) (h2:hi≤rows.length):
  (slice sz ((rows.take hi).drop lo)).h M w (.slice (if cap=lo then A else A.map (·.add (lo*sz))) (hi-lo) (cap-lo)):=by
 obtain ⟨A',cap',hv,hc,hm,hA,hr⟩:=h
 injection hv with e1 _ e3
 subst e1;subst e3
 have hlen:((rows.take hi).drop lo).length=hi-lo:=by rw [List.length_drop,List.length_take];omega
 refine ⟨_,cap-lo,by rw [hlen],by rw [hlen];omega,by omega,fun h=> ?_,fun i row hi'=> ?_⟩
 ·
  split at h
  · have:=hA h;omega
  ·
   cases hA2:A with
   |none=>have:=hA hA2;omega
   |some a=>rw [hA2] at h;cases h
 ·
  rw [List.getElem?_drop,List.getElem?_take] at hi'
  split at hi'
  ·
   rename_i hlt
   obtain ⟨h3,ad,h4,h5⟩:=hr _ row hi'
   subst h4
   rw [if_neg AA]
   refine ⟨h3,_,rfl,fun j p hp=> ?_⟩
   obtain ⟨u,h6,h7,h8,h9⟩:=h5 j p hp
   refine ⟨u,?_,?_,h8,h9⟩
   · rw [add_add,show lo*sz+(i*sz+j)=(lo+i)*sz+j by rw [Nat.add_mul];omega];exact h6
   · rw [H_,MZ,show ad.off+lo*sz+(i*sz+j)=ad.off+((lo+i)*sz+j) by rw [Nat.add_mul];omega];exact h7
  · cases hi'
theorem Dx {t e:TypeId} {x y:Operand} {k:IntKind} {h:Int} {sz:Nat} {rows:List (List Pr)} (ho:o.op= .slice t x none (some y) none) (ht:P.underlying t=some (.slice e)) (hz:A8 P e=some sz) (hx:VL E x (slice sz rows)) (hy:VL E y (is (.int k h))) (h0:0≤h) (hl:h≤rows.length):
  Ae P I o E (slice sz (rows.take h.toNat)):=
 Ae.same fun M w a he _=>by
  have h1:=hx.ev he Ar
  have h3:a.eval y=_:=hy.ev he Ar
  obtain ⟨A,cap,hv,hc,hm,hA,hr⟩:=h1
  have h2:=RQ (lo:=0) (hi:=h.toNat) (show (slice sz rows).h M w (.slice A rows.length cap) from ⟨A,cap,rfl,hc,hm,hA,hr⟩) AA AA
  refine ⟨_,?_,by simpa using h2⟩
  have hb:h≤(cap:Int):=by omega
  simp [execOp,ho,hv,h3,Instr.sliceAt,Instr.slice,run_underlying ht,Instr.sliceBounds,Instr.sliceBound,asIntOf,h0,hb,Cn hz]
theorem Dq {t e:TypeId} {x y:Operand} {k:IntKind} {l:Int} {sz:Nat} {rows:List (List Pr)} (ho:o.op= .slice t x (some y) none none) (ht:P.underlying t=some (.slice e)) (hz:A8 P e=some sz) (hx:VL E x (slice sz rows)) (hy:VL E y (is (.int k l))) (h0:0≤l) (hl:l≤rows.length):
  Ae P I o E (slice sz (rows.drop l.toNat)):=
 Ae.same fun M w a he _=>by
  have h1:=hx.ev he Ar
  have h3:a.eval y=_:=hy.ev he Ar
  obtain ⟨A,cap,hv,hc,hm,hA,hr⟩:=h1
  have h2:=RQ (lo:=l.toNat) (hi:=rows.length) (show (slice sz rows).h M w (.slice A rows.length cap) from ⟨A,cap,rfl,hc,hm,hA,hr⟩) AA (Nat.le_refl _)
  rw [List.take_length] at h2
  refine ⟨_,?_,h2⟩
  simp [execOp,ho,hv,h3,Instr.sliceAt,Instr.slice,run_underlying ht,Instr.sliceBounds,Instr.sliceBound,asIntOf,h0,hl,Cn hz]
end
abbrev Mx:Pr:=is (.tuple #[])
section
variable {P:Program} {L:Lg P} {n:Fm} {fz:Nat} {E:Env} {M0:Av} {w0:World} {S:Nat→Prop} {rs:List Ap} {o:Oper} {g:Func} {M1:Av} {w1:World}
theorem results0 {g:Func} {a:Act} {w:World} (hr:g.results= #[]):(results g a.tmps).run P w= .ok (.tuple #[]) w:=by
 rw [G7,hr];simp [Sem.run_bind]
theorem Fin.xl (hr:g.results= #[]):Fin ⟨fz,[]⟩ E (Hp M0 w0 FT rs) (bodyPost P g (Sj M0 w0 Mx)) .normal:=by
 rintro a w ⟨M,_,hd,he,hi⟩
 obtain ⟨h1,h2⟩:=Br.D4 M0 w0 M w hi
 exact ⟨hd,_,results0 hr,_,rfl,rfl,h2⟩
theorem Fin.lD {r:Ap} (hr:g.results= #[]):Fin ⟨fz,[]⟩ E (Hp M0 w0 S (r::Ak M1 w1::rs)) (bodyPost P g (Mi M0 w0 S rs M1 w1 Mx (fun _=>r))) .normal:=by
 rintro a w ⟨M,_,hd,he,hi⟩
 obtain ⟨h1,h2⟩:=fG hi
 exact ⟨hd,_,results0 hr,_,M,rfl,rfl,h1,h2⟩
def Wt (E:Env) (v0:Value) (q0:Pr):List Operand→List Pr→Prop
 |[],[]=>True
 |x::xs,p::ps=>(VL E x p∨(VL E x (is v0)∧Pr.le (Ac v0 q0) p))∧Wt E v0 q0 xs ps
 |_,_=>False
theorem Wt.ev {M M':Av} {w:World} {a:Act} {v0:Value} {q0:Pr} (he:Cb M w E o a) (hx:Ext M w M' w) (h0:q0.h M' w v0):∀{xs:List Operand} {ps:List Pr},(∀x∈xs,x∈o.op.operands.toList)→Wt E v0 q0 xs ps→HL M' w ps (xs.map a.eval)
 |[],[],_,_=>trivial
 |[],_::_,_,h=>h.elim
 |_::_,[],_,h=>h.elim
 |x::xs,p::ps,hm,h=>by
  refine ⟨?_,Wt.ev he hx h0 (fun y hy=>hm y (List.mem_cons_of_mem _ hy)) h.2⟩
  rcases h.1 with h1|⟨h1,h2⟩
  · exact p.st _ _ _ _ _ hx (h1.ev he (hm x AV))
  ·
   have h3:a.eval x=v0:=h1.ev he (hm x AV)
   exact h2 _ _ _ ⟨h3,by rw [h3];exact h0⟩
class Ja (p:Pr):Prop where
 free:∀M M' w v,p.h M w v→p.h M' w v
instance AD8 (u:Value):Ja (is u):=⟨fun _ _ _ _ h=>h⟩
instance zo (m:Nat):Ja (lens m):=⟨fun _ _ _ _ h=>h⟩
theorem sj {f:FuncId} {xs:Array Operand} {ts:Array TypeId} {ps:List Pr} {res:Pr} [Ja res] {j d b cap sz:Nat} {e:TypeId} (rows:List (List Pr)) {qs:List Pr} (hg:o.guard=none) (hd:o.dst=some d) (hn:d<n) (ho:o.op= .call { callee:= .value (.func f),args:=xs,argTypes:=ts }) (hf:BC P f ps res)
  (hl:∀r∈rows,r.length=sz) (hc:rows.length≤cap) (hm:cap≤maxLen) (hq:qs.length=(cap-rows.length)*sz)
  (hv:Wt E (.slice (some ⟨b,0,none⟩) rows.length cap) (slice sz rows) xs.toList ps):DC P M0 w0 S n j (SR.c (AE true b e (rows.flatten++qs))) (SR.c (AE true b e (rows.flatten++qs))) o E res:=by
 refine ⟨hg,fun M w a rs hsz he hI hj=> ?_⟩
 have hj':rs[j]? =some (AE true b e (rows.flatten++qs)):=hj
 obtain ⟨M',hx,P0,hs⟩:=Az.frz hI hj' hl hc hm hq
 have h1:=hv.ev (o:=o) he hx hs (xs:=xs.toList) (fun x hx=>by simp [ho,Op.operands,Call.operands];exact .inr FX)
 have hrun:(execOp a.eval o).run P w= .ok (.enter f (xs.toList.map a.eval).toArray) w:=by
  simp [execOp,ho,resolve,Deferred.ofValue,Act.eval,invoke,DB hf.1,GU xs]
 rw [hrun]
 refine (hf.2 M' w _ P0.bd h1).mono ?_
 rintro e' w' ⟨v,rfl,h2,h3⟩
 refine ⟨v,M,rfl,Ja.free _ _ _ _ h2,Ext.below h3,?_⟩
 have Ju:rs.set j (SR.at_ (a.put o.dst v) (SR.c (AE true b e (rows.flatten++qs))))=rs:=by
  rw [show SR.at_ (a.put o.dst v) (SR.c (AE true b e (rows.flatten++qs)))=AE true b e (rows.flatten++qs) from AAu _ _]
  have hjl:j<rs.length:=by rcases Nat.lt_or_ge j rs.length with h|h;exact h;rw [List.getElem?_eq_none h] at hj';cases hj'
  rw [List.getElem?_eq_getElem hjl] at hj'
  simp only [Option.some.injEq] at hj'
  rw [←hj',List.set_getElem_self]
 rw [Ju]
 exact (Hp M0 w0 S rs).st _ _ _ h3 hI
end
def Wu (es:List (Value×Value)):Array MapEntry:=(es.zipIdx.map fun p=>({ key:=p.1.1,val:=p.1.2,born:=p.2 }:MapEntry)).toArray
theorem RR (es:List (Value×Value)) (i:Nat):(Wu es)[i]? =(es[i]?).map fun p=>{ key:=p.1,val:=p.2,born:=i }:=by
 simp [Wu,List.getElem?_zipIdx]
 cases es[i]? <;>simp
structure AFQ (P:Program) (T kt et:TypeId) {κ:Type} [DecidableEq κ] (enc:κ→Value):Prop where
 und:P.underlying T=some (.map kt et)
 zero:∀w,(zeroValue et).run P w= .ok (.int .i64 0) w
 eq:∀a b w,(Op.equal kt (enc a) (enc b)).run P w= .ok (decide (a=b)) w
 chk:∀e a w,(Instr.checkKey e 10000 kt (enc a)).run P w= .ok () w
 AFR:∃d,P.underlying kt=some d∧((∀a b,Instr.sameNow d (enc a) (enc b)=none)∨∀a b,Instr.sameNow d (enc a) (enc b)=some (decide (a=b)))
 bits:∀a,Instr.sameBits 10000 (enc a) (enc a)=true
section
variable {P:Program} {L:Lg P} {n:Fm} {fz:Nat} {E:Env} {M0:Av} {w0:World} {S:Nat→Prop} {rs:List Ap} {o:Oper} {κ:Type} [DecidableEq κ] {enc:κ→Value}
abbrev RS (enc:κ→Value) (es:List (κ×Int)):List (Value×Value):=es.map fun p=>(enc p.1,.int .i64 p.2)
def xp (enc:κ→Value) (b:Nat) (es:List (κ×Int)):Ap where
 blk:=some b
 new:=true
 h M w:=(∀o,M b o)∧w.heap[b]? =some (.map (Wu (RS enc es)) es.length)
 st M w M' w' he hk h:=by
  obtain ⟨h1,h2⟩:=hk b rfl
  exact ⟨fun o=>h2 o (h.1 o),h1.trans h.2⟩
def look (es:List (κ×Int)) (k:κ):Option Int:=(es.find? fun p=>decide (k=p.1)).map (·.2)
theorem Az.ABg {M:Av} {w:World} {obj:Obj} {r:Ap} (h:Az M0 w0 S rs M w) (hb:r.blk=some w.heap.size) (hn:r.new=true) (hr:r.h (fun b o=>M b o∨b=w.heap.size) (w.alloc obj)):
  Az M0 w0 S (r::rs) (fun b o=>M b o∨b=w.heap.size) (w.alloc obj)∧Ext M w (fun b o=>M b o∨b=w.heap.size) (w.alloc obj):=by
 have Wr:Below w.heap.size w (w.alloc obj):=(Below.refl _ _).alloc (Nat.le_refl _) _
 have hsz:(w.alloc obj).heap.size=w.heap.size+1:=by simp
 have he:Ext M w (fun b o=>M b o∨b=w.heap.size) (w.alloc obj):=by
  have h2:=Ext.below (M:=M) Wr
  refine ⟨h2.size,fun a v hc hm=>⟨fun hx=> ?_,(h2.keep a v hc hm).2⟩,fun b o ho hp hm=>⟨fun hx=> ?_,(h2.obj b o ho hp hm).2⟩⟩
  ·
   rcases hx with hx|hx
   · exact CZ
   · exact FD
  ·
   rcases hx with hx|hx
   · exact CZ
   · exact FE
 have hI:=(Hp M0 w0 S rs).st _ _ _ Wr h
 refine ⟨⟨hI.m0,fun b o hm=> .inl (hI.m b o hm),hI.os,hI.tape,hI.output,hI.size,hI.block,fun b o hm=> ?_,fun r' hr'=> ?_,?_⟩,he⟩
 ·
  rcases hm with hm|hm
  · exact hI.bd b o hm
  · omega
 ·
  rcases List.mem_cons.1 hr' with rfl|hr'
  ·
   refine ⟨hr,fun b hbk=> ?_⟩
   rw [hb] at hbk
   injection hbk with hbk
   subst hbk
   exact ⟨by omega,by rw [hn];simpa using h.size⟩
  ·
   obtain ⟨h3,h4⟩:=h.hold r' hr'
   exact ⟨r'.st _ _ _ _ he (fun b hbk=>⟨Wr.block b (h4 b hbk).1,fun _ x=> .inl x⟩) h3,fun b hbk=>⟨by have:=(h4 b hbk).1;omega,(h4 b hbk).2⟩⟩
 ·
  refine List.Pairwise.cons (fun r' hr' b hbk E2=> ?_) h.nd
  rw [hb] at hbk
  injection hbk with hbk
  have:=((h.hold r' hr').2 b E2).1
  omega
def DW (w:World) (b:Nat) (o:Obj):World:={ w with heap:=w.heap.setIfInBounds b o }
theorem sk {w:World} {b:Nat} {o:Obj} (h:b<w.heap.size):(DW w b o).heap[b]? =some o:=by
 show (w.heap.setIfInBounds b o)[b]? =_
 rw [Array.getElem?_setIfInBounds];simp [h]
theorem Lw {w:World} {b k:Nat} {o:Obj} (h:k≠b):(DW w b o).heap[k]? =w.heap[k]? :=by
 show (w.heap.setIfInBounds b o)[k]? =_
 rw [Array.getElem?_setIfInBounds,if_neg (fun e=>h e.symm)]
theorem Az.AFS {M:Av} {w:World} {obj:Obj} {r r':Ap} {j b:Nat} (h:Az M0 w0 S rs M w) (hj:rs[j]? =some r) (hb:r.blk=some b) (hb':r'.blk=some b) (hn:r.new=true) (hn':r'.new=true) (hM:∀o,M b o) (hr:r'.h M (DW w b obj)):
  Az M0 w0 S (rs.set j r') M (DW w b obj)∧Ext M w M (DW w b obj):=by
 have hlt:=((h.hold r (List.mem_of_getElem? hj)).2 b hb).1
 have hsz:(DW w b obj).heap.size=w.heap.size:=by simp [DW]
 have he:Ext M w M (DW w b obj):=by
  refine ⟨by omega,fun a v hc hm=>⟨hm,?_⟩,fun k o ho hp hm=>⟨hm,?_⟩⟩
  · rw [World.cell?_of_block (w:=w) (Lw (fun e=>hm (by rw [e];exact hM _)))];exact hc
  · rw [Lw (fun e=>hm (by rw [e];exact hM _))];exact ho
 refine ⟨h.replace hj he rfl rfl rfl (fun k _ hk=>Lw (fun e=>hk (by rw [hb,e]))) hn (fun _ _ hm _=>hm) (fun k o hm=>by rw [hsz];exact h.bd k o hm) hr hn' (fun k hk=> ?_),he⟩
 rw [hb'] at hk
 injection hk with hk
 subst hk
 exact ⟨by omega,.inl hb⟩
variable {Q:Exit→Act→World→Prop} {ops:Array Oper} {r:List Oper}
def Oo (it b m:Nat) (seen:List Nat):Ap where
 blk:=some it
 new:=true
 h M w:=(∀o,M it o)∧w.heap[it]? =some (.mapIter (some b) m seen.toArray m)
 st M w M' w' he hk h:=by
  obtain ⟨h1,h2⟩:=hk it rfl
  exact ⟨fun o=>h2 o (h.1 o),h1.trans h.2⟩
theorem TO.range {d j b:Nat} {T kt et:TypeId} {x:Operand} {es:List (κ×Int)} (hT:AFQ P T kt et enc) (hg:o.guard=none) (hd:o.dst=some d) (hn:d<n) (ho:o.op= .range T x) (hx:VL E x (is (.map (some b)))) (hj:rs[j]? =some (xp enc b es))
  (k:∀it,TO P n ops r ((d,ptr it 0)::E) (Hp M0 w0 S (Oo it b es.length []::rs)) Q):TO P n ops (o::r) E (Hp M0 w0 S rs) Q:=
 TO.fD hg fun K M w a hsz hdf he hI hK=>by
  have h1:a.eval x=_:=hx.ev (o:=o) (CW he) Ar
  obtain ⟨_,hh⟩:=(Az.hold hI _ (List.mem_of_getElem? hj)).1
  refine TO.val (v:= .pointer (some ⟨w.heap.size,0,none⟩)) (w':=w.alloc (.mapIter (some b) es.length #[] es.length)) ?_ ?_
  · simp [execOp,ho,h1,run_range_map w T kt et b _ _ hT.und hh]
  ·
   obtain ⟨h2,h3⟩:=Az.ABg (obj:= .mapIter (some b) es.length #[] es.length) (r:=Oo w.heap.size b es.length []) hI rfl rfl ⟨fun _=> .inr rfl,by rw [heap_alloc_new]⟩
   refine hK _ _ _ _ (k w.heap.size) ⟨_,by rw [B6];exact hsz,by rw [put_defers];exact hdf,?_,h2⟩
   intro s p hp
   simp only [List.lookup] at hp
   by_cases hs:s=d
   · exact Qq
   ·
    rw [show (s==d)=false by simpa using hs] at hp
    rw [hd,BW hs]
    exact p.st _ _ _ _ _ h3 (he s p hp)
theorem mem_left {es:List (Value×Value)} {seen:List Nat} {e:MapEntry}:e∈(leftOf (Wu es) seen.toArray).toList↔∃q p,es[q]? =some p∧q∉seen∧e={ key:=p.1,val:=p.2,born:=q }:=by
 unfold leftOf
 rw [Array.toList_filter,List.mem_filter]
 constructor
 ·
  rintro ⟨h1,h2⟩
  obtain ⟨q,hq⟩:=List.mem_iff_getElem?.1 h1
  rw [Array.getElem?_toList,RR] at hq
  cases hp:es[q]? with
  |none=>rw [hp] at hq;cases hq
  |some p=>
   rw [hp] at hq
   simp only [Option.map_some,Option.some.injEq] at hq
   subst hq
   exact ⟨q,p,hp,by simpa using h2,rfl⟩
 ·
  rintro ⟨q,p,hp,hq,rfl⟩
  exact ⟨List.mem_iff_getElem?.2 ⟨q,by rw [Array.getElem?_toList,RR,hp];rfl⟩,by simpa using hq⟩
theorem VA {w:World} (ty:TypeId) {it b m:Nat} {seen:List Nat} {es:List (Value×Value)} (hm:es.length=m) (hit:w.heap[it]? =some (.mapIter (some b) m seen.toArray m)) (hb:w.heap[b]? =some (.map (Wu es) m)):
  ((∀q,q<m→q∈seen)∧(Instr.next (.pointer (some ⟨it,0,none⟩)) false ty).run P w= .ok (.tuple #[.bool false]) w)∨
  ∃q p,es[q]? =some p∧q∉seen∧∃w1,(w1=w∨w1=w.drew)∧(Instr.next (.pointer (some ⟨it,0,none⟩)) false ty).run P w= .ok (.tuple #[.bool true,p.1,p.2]) (DW w1 it (.mapIter (some b) m (seen++[q]).toArray m)):=by
 have hold:∀x∈(Wu es).toList,x.born<m:=by
  intro x hx
  obtain ⟨q,hq⟩:=List.mem_iff_getElem?.1 hx
  rw [Array.getElem?_toList,RR] at hq
  cases hp:es[q]? with
  |none=>rw [hp] at hq;cases hq
  |some p=>
   rw [hp] at hq
   simp only [Option.map_some,Option.some.injEq] at hq
   subst hq
   show q<m
   rcases Nat.lt_or_ge q es.length with h|h
   · omega
   · rw [List.getElem?_eq_none h] at hp;cases hp
 simp only [Instr.next,getObj,Sem.run_bind,Sem.run,hit,hb,Result.andThen,next_test_false seen.toArray (Wu es) m m hold (Nat.le_refl _),Bool.false_eq_true,if_false]
 have hleft:(Wu es).filter (fun e=> !seen.toArray.contains e.born)=leftOf (Wu es) seen.toArray:=rfl
 rw [hleft]
 have hmem:∀x∈(leftOf (Wu es) seen.toArray).toList,x.born<m:=fun x hx=>by
  obtain ⟨q,p,h1,_,rfl⟩:=mem_left.1 hx
  rcases Nat.lt_or_ge q es.length with h|h
  · show q<m;omega
  · rw [List.getElem?_eq_none h] at h1;cases h1
 have hml:∀e,e∈(leftOf (Wu es) seen.toArray).toList↔∃q p,es[q]? =some p∧q∉seen∧e={ key:=p.1,val:=p.2,born:=q }:=fun e=>mem_left
 generalize leftOf (Wu es) seen.toArray=L at hmem hml ⊢
 have e1:L.filter (fun x=>decide (x.born<m))=L:=Array.filter_eq_self.2 (fun x hx=>by simpa using hmem x FX)
 have e2:L.filter (fun x=>decide (x.born≥m))= #[]:=by
  rw [Array.filter_eq_empty_iff]
  intro x hx
  have:=hmem x FX
  simp
  omega
 simp only [e1,e2,Array.append_empty]
 by_cases h0:L.size=0
 ·
  left
  have hL:L= #[]:=Array.eq_empty_of_size_eq_zero h0
  refine ⟨fun q hq=> ?_,?_⟩
  ·
   rcases Classical.em (q∈seen) with h|h
   · exact h
   ·
    have:=(hml { key:=(es[q]'(by omega)).1,val:=(es[q]'(by omega)).2,born:=q }).2 ⟨q,es[q]'(by omega),List.getElem?_eq_getElem AA,h,rfl⟩
    rw [hL] at this;simp at this
  ·
   subst hL
   simp [choose,Sem.run,Question.forced]
 ·
  right
  have hne:L.isEmpty=false:=by simp [Array.isEmpty,h0]
  simp only [hne,Bool.false_eq_true,if_false,Array.empty_append,Array.size_map]
  have hch:∃(j:Nat) (w1:World),j<L.size∧(w1=w∨w1=w.drew)∧(choose (Question.mapNext L.size)).run P w= .ok j w1:=by
   by_cases hf:L.size≤1
   · exact ⟨0,w,by omega,.inl rfl,by simp [choose,Sem.run,Question.forced,hf]⟩
   ·
    exact ⟨_,w.drew,Nat.mod_lt _ AA,.inr rfl,by
     simp only [choose,Sem.run,Question.forced,decide_eq_true_eq,hf,if_false,Question.cut]
     rfl⟩
  obtain ⟨j,w1,hj,hal,hrun⟩:=hch
  obtain ⟨q,p,hq1,fA,hq3⟩:=(hml L[j]).1 AV
  refine ⟨q,p,hq1,fA,w1,hal,?_⟩
  have hw1:w1.heap=w.heap:=by rcases hal with rfl|rfl<;>rfl
  have Ju:∀(o':Obj),(setObj it o').run P w1= .ok () (DW w1 it o'):=fun o'=>by
   have AFT:w1.heap[it]? =some (.mapIter (some b) m seen.toArray m):=by rw [hw1];exact hit
   simp only [setObj,Sem.run,AFT]
   rfl
  simp only [hrun,Array.getElem?_map,Array.getElem?_eq_getElem hj,Option.map_some,Sem.run_bind,Ju,Result.andThen]
  rw [hq3]
  simp
omit [DecidableEq κ] in
theorem TO.next {d i j it b:Nat} {x:Operand} {es:List (κ×Int)} {seen:List Nat} (hg:o.guard=none) (hd:o.dst=some d) (hn:d<n) (ho:o.op= .next x false) (hx:VL E x (ptr it 0)) (hi:rs[i]? =some (Oo it b es.length seen)) (hj:rs[j]? =some (xp enc b es))
  (k1:(∀q,q<es.length→q∈seen)→TO P n ops r ((d,D6 [bool false])::E) (Hp M0 w0 S rs) Q)
  (k2:∀q p,es[q]? =some p→q∉seen→TO P n ops r ((d,D6 [bool true,is (enc p.1),int p.2])::E) (Hp M0 w0 S (rs.set i (Oo it b es.length (seen++[q])))) Q):TO P n ops (o::r) E (Hp M0 w0 S rs) Q:=
 TO.fD hg fun K M w a hsz hdf he hI hK=>by
  have h1:a.eval x= .pointer (some ⟨it,0,none⟩):=hx.ev (o:=o) (CW he) Ar
  obtain ⟨⟨hMi,hit⟩,hbi⟩:=Az.hold hI _ (List.mem_of_getElem? hi)
  obtain ⟨_,hh⟩:=(Az.hold hI _ (List.mem_of_getElem? hj)).1
  have hlt:=(hbi it rfl).1
  rcases VA (P:=P) o.type (es:=RS enc es) (by simp [RS]) hit hh with ⟨h2,h3⟩|⟨q,p,h2,h3,w1,h4,h5⟩
  ·
   refine TO.val (v:= .tuple #[.bool false]) (w':=w) ?_ ?_
   · simp [execOp,ho,h1,h3]
   ·
    refine hK _ _ _ _ (k1 h2) ⟨M,by rw [B6];exact hsz,by rw [put_defers];exact hdf,?_,hI⟩
    intro s p hp
    simp only [List.lookup] at hp
    by_cases hs:s=d
    · subst hs;simp at hp;subst hp;rw [hd,B1 Gx];exact ⟨_,rfl,rfl,trivial⟩
    ·
     rw [show (s==d)=false by simpa using hs] at hp
     rw [hd,BW hs];exact he s p hp
  ·
   have VB:∃p',es[q]? =some p'∧p=(enc p'.1,.int .i64 p'.2):=by
    simp only [RS,List.getElem?_map] at h2
    cases h:es[q]? with
    |none=>rw [h] at h2;cases h2
    |some p'=>rw [h] at h2;simp at h2;exact ⟨p',rfl,h2.symm⟩
   obtain ⟨p',hp',rfl⟩:=VB
   refine TO.val (v:= .tuple #[.bool true,enc p'.1,.int .i64 p'.2]) (w':=DW w1 it (.mapIter (some b) es.length (seen++[q]).toArray es.length)) ?_ ?_
   · simp [execOp,ho,h1,h5]
   ·
    have xq:Below w.heap.size w w1:=by
     rcases h4 with rfl|rfl
     · exact Below.refl _ _
     · exact (Below.refl _ _).drew
    have hI1:=(Hp M0 w0 S rs).st _ _ _ xq hI
    obtain ⟨h6,h7⟩:=Az.AFS (obj:= .mapIter (some b) es.length (seen++[q]).toArray es.length) (r':=Oo it b es.length (seen++[q])) hI1 hi rfl rfl rfl rfl hMi ⟨hMi,sk (Nat.lt_of_lt_of_le hlt xq.size)⟩
    refine hK _ _ _ _ (k2 q p' hp' h3) ⟨M,by rw [B6];exact hsz,by rw [put_defers];exact hdf,?_,h6⟩
    intro s p hp
    simp only [List.lookup] at hp
    by_cases hs:s=d
    · subst hs;simp at hp;subst hp;rw [hd,B1 Gx];exact ⟨_,rfl,rfl,rfl,rfl,trivial⟩
    ·
     rw [show (s==d)=false by simpa using hs] at hp
     rw [hd,BW hs]
     exact p.st _ _ _ _ _ ((Ext.below xq).trans h7) (he s p hp)
omit [DecidableEq κ] in
theorem TO.entry {d i j it b q:Nat} {x:Operand} {es:List (κ×Int)} {seen:List Nat} {p:κ×Int} (hg:o.guard=none) (hd:o.dst=some d) (hn:d<n) (ho:o.op= .entry x) (hx:VL E x (ptr it 0)) (hi:rs[i]? =some (Oo it b es.length (seen++[q]))) (hj:rs[j]? =some (xp enc b es)) (hq:es[q]? =some p)
  (k:TO P n ops r ((d,D6 [is (enc p.1),int p.2])::E) (Hp M0 w0 S rs) Q):TO P n ops (o::r) E (Hp M0 w0 S rs) Q:=
 TO.fD hg fun K M w a hsz hdf he hI hK=>by
  have h1:a.eval x= .pointer (some ⟨it,0,none⟩):=hx.ev (o:=o) (CW he) Ar
  obtain ⟨⟨_,hit⟩,_⟩:=Az.hold hI _ (List.mem_of_getElem? hi)
  obtain ⟨_,hh⟩:=(Az.hold hI _ (List.mem_of_getElem? hj)).1
  have hat:(Wu (RS enc es))[q]? =some { key:=enc p.1,val:= .int .i64 p.2,born:=q }:=by rw [RR];simp [RS,hq]
  have hnd:((Wu (RS enc es)).toList.map (·.born)).Nodup:=by
   have:(Wu (RS enc es)).toList.map (·.born)=List.range (RS enc es).length:=by
    apply List.ext_getElem?
    intro k
    rw [List.getElem?_map,Array.getElem?_toList,RR]
    by_cases hk:k<(RS enc es).length
    · rw [List.getElem?_range hk,List.getElem?_eq_getElem hk];rfl
    · rw [List.getElem?_eq_none (Nat.le_of_not_lt hk),List.getElem?_eq_none (by simp at hk ⊢;omega)];rfl
   rw [this];exact List.nodup_range
  have hfind:(Wu (RS enc es)).find? (fun e=>e.born==q)=some { key:=enc p.1,val:= .int .i64 p.2,born:=q }:=by
   rw [←Array.find?_toList]
   exact find_born { key:=enc p.1,val:= .int .i64 p.2,born:=q } _ hnd (List.mem_iff_getElem?.2 ⟨q,by rw [Array.getElem?_toList];exact hat⟩)
  refine TO.val (v:= .tuple #[enc p.1,.int .i64 p.2]) (w':=w) ?_ ?_
  ·
   have:(Instr.entry (.pointer (some ⟨it,0,none⟩))).run P w= .ok (.tuple #[enc p.1,.int .i64 p.2]) w:=by
    have hb:(seen++[q]).toArray.back? =some q:=by simp
    simp only [Instr.entry,getObj,Sem.run_bind,Sem.run,hit,hh,Result.andThen,hb,bne_self_eq_false,Bool.false_eq_true,if_false,hfind]
    rfl
   simp [execOp,ho,h1,this]
  ·
   refine hK _ _ _ _ k ⟨M,by rw [B6];exact hsz,by rw [put_defers];exact hdf,?_,hI⟩
   intro s p hp
   simp only [List.lookup] at hp
   by_cases hs:s=d
   · subst hs;simp at hp;subst hp;rw [hd,B1 Gx];exact ⟨_,rfl,rfl,rfl,trivial⟩
   ·
    rw [show (s==d)=false by simpa using hs] at hp
    rw [hd,BW hs];exact he s p hp
end
section
variable {P:Program} {L:Lg P}
end
section
variable {P:Program} {L:Lg P} {n:Fm} {fz:Nat} {E:Env} {M0:Av} {w0:World} {S:Nat→Prop} {rs:List Ap} {o:Oper}
theorem PN (w:World) (A:Option Addr) (t ty e:TypeId) (i:TypeInfo) (z:Value) (ht:P.underlying t=some (.slice e)) (hi:P.info? e=some i) (hz:i.zero=some z)
  (a:Addr) (n c:Nat) (news:List Value) (hl:news.length=n*i.size) (hnews:∀j v,news[j]? =some v→w.cell? (a.add j)=some v)
  (h0:0<n) (h63:(n:Int)≤9223372036854775807) (h48:n*i.bytes≤281474976710656):
  (Builtin.append_ #[t, t] ty #[.slice A 0 0, .slice (some a) n c]).run P w =
   .ok (.slice (some ⟨w.heap.size,0,none⟩) n (grownCap w n 0 e)) (w.drew.alloc (.cells (news.toArray++Builtin.zeroCells z.cells (grownCap w n 0 e-n)) e)):=by
 cases A with
 |none=>exact run_append_nil (w:=w) t ty e i z ht hi hz a n c news hl hnews h0 h63 h48
 |some b=>
  have:=run_append_grow (w:=w) t ty e i z ht hi hz b 0 0 [] AV AV a n c news hl hnews AA (by simpa using h63) (by rw [Nat.zero_add,nextslicecap_zero h0];exact h48)
  simpa using this
theorem Wv {M:Av} {w:World} {t ty e:TypeId} {sz bytes:Nat} {zs:List Value} {rows:List (List Pr)} {u:Value} {j:Nat} (A:Option Addr) (ht:P.underlying t=some (.slice e)) (hz:A8 P e=some sz) (hby:Bx P e=some bytes) (Ee:Bc P e=some zs) (hzl:zs.length=sz) (hone:zs.all (·.oneCell')=true) (hsz:0<sz)
  (h:Az M0 w0 S rs M w) (hj:rs[j]? =some Bp) (hu:(slice sz rows).h M w u) (hpos:0<rows.length) (Gy:rows.length≤maxLen) (hfit:rows.length*bytes≤140737488355328):
  ∃v' w' M',(Builtin.append_ #[t,t] ty #[.slice A 0 0,u]).run P w= .ok v' w'∧(lens rows.length).h M' w' v'∧Ext M w M' w'∧Az M0 w0 S (rs.set j (D8 e sz rows v')) M' w':=by
 unfold A8 at hz
 unfold Bx at hby
 unfold Bc at Ee
 cases hi:P.info? e with
 |none=>rw [hi] at hz;cases hz
 |some i=>
  rw [hi] at hz hby Ee
  simp only [Option.map_some,Option.some.injEq,Option.map_eq_some_iff] at hz hby Ee
  obtain ⟨z,bu,Ee⟩:=Ee
  have jG:z.cells.size=sz:=by rw [←hzl,←Ee];simp
  obtain ⟨A',c',rfl,hmc,Yt,hA',G3⟩:=hu
  have Si:(slice sz rows).h M w (.slice A' rows.length c'):=⟨A',c',rfl,hmc,Yt,hA',G3⟩
  obtain ⟨TK,rfl⟩:∃TK,A'=some TK:=by
   obtain ⟨_,b,hb,_⟩:=G3 0 _ (List.getElem?_eq_getElem hpos)
   exact ⟨b,hb⟩
  obtain ⟨news,hfl,hcell⟩:=F4 hsz Si
  have hrun:=PN (P:=P) w A t ty e i z ht hi bu TK rows.length c' news (by rw [hz];exact hfl.1) (fun k u hk=>(hcell k u hk).1) hpos Uh (by rw [hby];omega)
  generalize hcap:grownCap w rows.length 0 e=cap at hrun
  have hge:rows.length≤cap:=by rw [←hcap];exact grownCap_ge _ _ _ _
  have hle:cap≤maxLen:=by rw [←hcap];exact grownCap_le_maxLen _ _ _ _ Gy
  generalize Sl:Builtin.zeroCells z.cells (cap-rows.length)=zc at hrun
  have hzs:zc.size=(cap-rows.length)*sz:=by rw [←Sl,size_zeroCells,jG]
  have hzo:∀c∈zc.toList,c.oneCell'=true:=by rw [←Sl];exact GM Ee hone
  have hb:Below w.heap.size w (w.drew.alloc (.cells (news.toArray++zc) e)):=((Below.refl _ _).drew).alloc (Nat.le_refl _) _
  have h2:=Ext.below (M:=M) hb
  have E6:Ext M w (fun b o=>M b o∨b=w.heap.size) (w.drew.alloc (.cells (news.toArray++zc) e)):=by
   refine ⟨h2.size,fun a v hc hm=>⟨fun hx=> ?_,(h2.keep a v hc hm).2⟩,fun b o ho hp hm=>⟨fun hx=> ?_,(h2.obj b o ho hp hm).2⟩⟩
   ·
    rcases hx with hx|hx
    · exact CZ
    · exact FD
   ·
    rcases hx with hx|hx
    · exact CZ
    · exact FE
  have hs1:(w.drew.alloc (.cells (news.toArray++zc) e)).heap.size=w.heap.size+1:=by simp
  refine ⟨_,_,fun b o=>M b o∨b=w.heap.size,hrun,⟨_,_,rfl⟩,E6,?_⟩
  refine h.replace hj E6 hb.os hb.tape hb.output (fun k hk _=>hb.block k hk) rfl (fun b o hm _=> .inl hm) (fun b o hx=> ?_) ?_ rfl (fun b hbk=> ?_)
  ·
   rcases hx with hx|hx
   · exact MX
   · omega
  ·
   refine ⟨w.heap.size,cap,zc.toList,rfl,hge,hle,by simpa using hzs,fun o=> .inr rfl,news++zc.toList,?_,?_,?_⟩
   ·
    have hh:(w.drew.alloc (.cells (news.toArray++zc) e)).heap[w.heap.size]? =some (.cells (news.toArray++zc) e (0,0)):=heap_alloc_new w.drew _
    rw [hh];simp
   · exact ((hfl.st E6).hl hsz).app (LP _ _ _)
   ·
    intro c hc
    rcases List.mem_append.1 hc with hc|hc
    · exact hfl.2.1 c hc
    · exact hzo c hc
  ·
   have E2:some w.heap.size=some b:=hbk
   injection E2 with e1
   subst e1
   exact ⟨by rw [hs1];omega,.inr (Nat.le_refl _)⟩
theorem Iv {t e:TypeId} {x y:Operand} {sz':Nat} {sz bytes d:Nat} {zs:List Value} {rows:List (List Pr)} {j:Nat} (hg:o.guard=none) (hd:o.dst=some d) (hn:d<n) (ho:o.op= .call { callee:= .builtin .append,args:= #[x,y],argTypes:= #[t,t] })
  (ht:P.underlying t=some (.slice e)) (hz:A8 P e=some sz) (hby:Bx P e=some bytes) (Ee:Bc P e=some zs) (hzl:zs.length=sz) (hone:zs.all (·.oneCell')=true) (hsz:0<sz)
  (hx:VL E x (full sz' [])) (hy:VL E y (slice sz rows)) (hpos:0<rows.length) (Gy:rows.length≤maxLen) (hfit:rows.length*bytes≤140737488355328):DC P M0 w0 S n j (SR.c Bp) ⟨d,D8 e sz rows⟩ o E (lens rows.length):=by
 refine ⟨hg,fun M w a rs WK he hI hj=> ?_⟩
 have h2:=hy.ev he DH
 obtain ⟨_,A,h1⟩:=hx.ev he DH
 simp only [List.length_nil] at h1
 obtain ⟨v',w',M',hrun,h3,h4,h5⟩:=Wv A (ty:=o.type) ht hz hby Ee hzl hone hsz hI hj h2 hpos Gy hfit
 have En:(execOp a.eval o).run P w= .ok (.value v') w':=by simp [execOp,ho,resolve,invoke,builtin,h1,hrun]
 rw [En]
 refine ⟨M',h3,h4,?_⟩
 have:(SR.at_ (a.put o.dst v') ⟨d,D8 e sz rows⟩)=D8 e sz rows v':=by unfold SR.at_ Slot.val;dsimp only;rw [hd,B1 Ic]
 rw [this];exact h5
theorem Kw {I:Ce} {t e:TypeId} {x:Operand} {A:Option Addr} {m cap:Nat} (ho:o.op= .call { callee:= .builtin .len,args:= #[x],argTypes:= #[t] }) (ht:P.underlying t=some (.slice e)) (hx:VL E x (is (.slice A m cap))):Ae P I o E (int m):=
 Ae.same fun M w a he _=>by
  have h1:a.eval x=_:=hx.ev he DH
  exact ⟨.int .i64 m,by simp [execOp,ho,resolve,invoke,builtin,Builtin.len_,h1,run_underlying ht,goInt],rfl⟩
theorem Oq {I:Ce} {t e:TypeId} {x y:Operand} {k:IntKind} {h:Int} {sz b m cap:Nat} (ho:o.op= .slice t x none (some y) none) (ht:P.underlying t=some (.slice e)) (hz:A8 P e=some sz) (hx:VL E x (is (.slice (some ⟨b,0,none⟩) m cap))) (hy:VL E y (is (.int k h))) (h0:0≤h) (hl:h≤m) (hc:m≤cap) (h1m:0<cap):
  Ae P I o E (is (.slice (some ⟨b,0,none⟩) h.toNat cap)):=
 Ae.same fun M w a he _=>by
  have h1:a.eval x=_:=hx.ev he Ar
  have h3:a.eval y=_:=hy.ev he Ar
  have hb:h≤(cap:Int):=by omega
  refine ⟨_,?_,rfl⟩
  simp [execOp,ho,h1,h3,Instr.sliceAt,Instr.slice,run_underlying ht,Instr.sliceBounds,Instr.sliceBound,asIntOf,h0,hb,Cn hz]
  intro _;rfl
theorem Sr {I:Ce} {t e:TypeId} {x y:Operand} {k:IntKind} {l:Int} {sz b m cap:Nat} (ho:o.op= .slice t x (some y) none none) (ht:P.underlying t=some (.slice e)) (hz:A8 P e=some sz) (hx:VL E x (is (.slice (some ⟨b,0,none⟩) m cap))) (hy:VL E y (is (.int k l))) (h0:0≤l) (hl:l<m) (hc:m≤cap):
  Ae P I o E (is (.slice (some ⟨b,l.toNat*sz,none⟩) (m-l.toNat) (cap-l.toNat))):=
 Ae.same fun M w a he _=>by
  have h1:a.eval x=_:=hx.ev he Ar
  have h3:a.eval y=_:=hy.ev he Ar
  have hb:l≤(m:Int):=by omega
  have hne:¬cap=l.toNat:=by omega
  refine ⟨_,?_,rfl⟩
  simp [execOp,ho,h1,h3,Instr.sliceAt,Instr.slice,run_underlying ht,Instr.sliceBounds,Instr.sliceBound,asIntOf,h0,hb,Cn hz,hne,Fe]
theorem sn {M:Av} {w:World} {zs:List Value} {z:Array Value} {k:Nat} (hz:z.toList=zs) (h0:0<zs.length):HL M w (List.replicate k (zs.map is)).flatten (Builtin.zeroCells z k).toList:=by
 have hlr:∀r∈List.replicate k (zs.map is),r.length=zs.length:=fun r hr=>by rw [List.eq_of_mem_replicate hr,List.length_map]
 have hfl:=Cw hlr
 rw [List.length_replicate] at hfl
 have hzs:z.size=zs.length:=by rw [←hz];simp
 refine TX (by rw [Array.length_toList,size_zeroCells,hfl,hzs]) fun i p hi=> ?_
 have Fp:i<k*zs.length:=by rw [←hfl];rcases Nat.lt_or_ge i (List.replicate k (zs.map is)).flatten.length with h|h;exact h;rw [List.getElem?_eq_none h] at hi;cases hi
 have hq:i/zs.length<k:=Nat.div_lt_of_lt_mul (by rw [Nat.mul_comm];exact Fp)
 have hm:i % zs.length<zs.length:=Nat.mod_lt _ h0
 have he:i/zs.length*zs.length+i % zs.length=i:=by rw [Nat.mul_comm];exact Nat.div_add_mod i _
 rw [←he,HY hlr (by rw [List.getElem?_replicate,if_pos hq]) hm,List.getElem?_map,List.getElem?_eq_getElem hm] at hi
 simp only [Option.map_some,Option.some.injEq] at hi
 subst hi
 refine ⟨zs[i % zs.length],?_,rfl⟩
 have hzl:i<k*z.size:=by rw [hzs];exact Fp
 simp only [Builtin.zeroCells,Array.toList_map,Array.toList_range,List.getElem?_map]
 rw [List.getElem?_range hzl]
 subst hz
 simp only [Option.map_some,Option.some.injEq]
 have hm':i % z.size<z.size:=by rw [hzs];exact hm
 rw [getElem!_pos z _ hm',←Array.getElem_toList]
 congr 1
theorem lE {t e:TypeId} {x:Operand} {j:Nat} {new:Bool} {b off m cap sz:Nat} {zs:List Value} {T:TypeId} {ps ps':List Pr} (hg:o.guard=none) (ho:o.op= .call { callee:= .builtin .clear,args:= #[x],argTypes:= #[t] })
  (ht:P.underlying t=some (.slice e)) (hz:A8 P e=some sz) (Ee:Bc P e=some zs) (hzl:zs.length=sz) (hone:zs.all (·.oneCell')=true) (hsz:0<sz) (hx:VL E x (is (.slice (some ⟨b,off,none⟩) m cap))) (hm:0<m)
  (hl:off+m*sz≤ps.length) (hps:ps.take off++(List.replicate m (zs.map is)).flatten++ps.drop (off+m*sz)=ps'):DC P M0 w0 S n j (SR.c (AE new b T ps)) (SR.c (AE new b T ps')) o E any:=by
 refine ⟨hg,fun M w a rs WK he hI hj=> ?_⟩
 have h1:a.eval x=_:=hx.ev he DH
 unfold Bc at Ee
 cases hi:P.info? e with
 |none=>rw [hi] at Ee;cases Ee
 |some i=>
  rw [hi] at Ee
  simp only [Option.map_eq_some_iff] at Ee
  obtain ⟨z,bu,Ee⟩:=Ee
  have jG:z.cells.size=sz:=by rw [←hzl,←Ee];simp
  obtain ⟨⟨_,cs,h4,h5,h6⟩,_⟩:=hI.hold _ (List.mem_of_getElem? hj)
  have h5l:=h5.length
  have hzs:(Builtin.zeroCells z.cells m).size=m*sz:=by rw [size_zeroCells,jG]
  have h3:∀c∈(Builtin.zeroCells z.cells m).toList,c.oneCell'=true:=GM Ee hone
  have hrun:(storeCells ⟨b,off,none⟩ (Builtin.zeroCells z.cells m).toList 0).run P w= .ok () (w.setRow b (cs.take off++(Builtin.zeroCells z.cells m).toList++cs.drop (off+m*sz)).toArray):=by
   have:=run_storeCells_at (P:=P) b off T (Builtin.zeroCells z.cells m).toList 0 cs.toArray w h4 (by simp [hzs];omega) h3
   simpa [hzs] using this
  obtain ⟨m',rfl⟩:∃m',m=m'+1:=⟨m-1,by omega⟩
  have En:(execOp a.eval o).run P w= .ok (.value (.tuple #[])) (w.setRow b (cs.take off++(Builtin.zeroCells z.cells (m'+1)).toList++cs.drop (off+(m'+1)*sz)).toArray):=by
   simp [execOp,ho,h1,resolve,invoke,builtin,Builtin.clear_,run_underlying ht,zeroValue,typeInfo,hi,bu,hrun]
  rw [En]
  obtain ⟨h7, h8⟩ := Az.write (qs := ps') (cs := cs.take off ++ (Builtin.zeroCells z.cells (m' + 1)).toList ++ cs.drop (off + (m' + 1) * sz)) hI hj (by rw [← hps]; exact (((h5.take off).app (sn Ee AA))).app (h5.drop (off + (m' + 1) * sz)))
   (fun c hc=>by
    simp only [List.mem_append] at hc
    rcases hc with (hc|hc)|hc
    · exact MT
    · exact h3 c hc
    · exact h6 c (List.mem_of_mem_drop hc))
  exact ⟨M,trivial,h8,h7⟩
theorem lF {β:Type} {f:β→List Pr} {l:List β} {qs:List Pr} {sz:Nat} (hf:∀x,(f x).length=sz) {i:Nat} {x:β} (h:l[i]? =some x):((((l.map f).flatten++qs).drop (i*sz)).take sz)=f x:=by
 have hl:∀r∈l.map f,r.length=sz:=fun r hr=>by obtain ⟨y,_,rfl⟩:=List.mem_map.1 hr;exact hf y
 have hi:i<l.length:=by rcases Nat.lt_or_ge i l.length with h'|h';exact h';rw [List.getElem?_eq_none h'] at h;cases h
 have hfl:=Cw hl
 rw [List.length_map] at hfl
 have hle:(i+1)*sz≤l.length*sz:=Nat.mul_le_mul_right sz hi
 rw [Nat.add_mul,Nat.one_mul] at hle
 apply List.ext_getElem?
 intro k
 rw [List.getElem?_take]
 split
 ·
  rename_i hk
  rw [List.getElem?_drop,List.getElem?_append_left (by rw [hfl];omega),HY hl (by rw [List.getElem?_map,h];rfl) hk]
 ·
  rename_i hk
  rw [List.getElem?_eq_none (by rw [hf];omega)]
theorem N7 {β:Type} {f:β→List Pr} {sz:Nat} (hf:∀x,(f x).length=sz):∀{l:List β} {qs:List Pr} {i:Nat} {x:β},i<l.length→((l.map f).flatten++qs).take (i*sz)++f x++((l.map f).flatten++qs).drop (i*sz+sz)=((l.set i x).map f).flatten++qs
 |[],_,_,_,h=>by simp at h
 |a::l,qs,0,x,_=>by
  simp only [List.map_cons,List.flatten_cons,Nat.zero_mul,List.take_zero,List.nil_append,Nat.zero_add,List.set_cons_zero]
  rw [←hf a,List.append_assoc,List.drop_left,List.append_assoc]
 |a::l,qs,i+1,x,h=>by
  have ih:=N7 hf (l:=l) (qs:=qs) (i:=i) (x:=x) Du
  simp only [List.map_cons,List.flatten_cons,List.set_cons_succ]
  have e1:(i+1)*sz=(f a).length+i*sz:=by rw [hf a,Nat.add_mul];omega
  rw [List.append_assoc,List.append_assoc,e1,List.take_append,List.take_of_length_le AA,show (f a).length+i*sz-(f a).length=i*sz by omega,show (f a).length+i*sz+sz=(f a).length+(i*sz+sz) by omega,List.drop_append,List.drop_of_length_le AA,show (f a).length+(i*sz+sz)-(f a).length=i*sz+sz by omega,List.nil_append,List.append_assoc (f a) _ qs,←ih]
  simp only [List.append_assoc]
theorem TO.RM {ops:Array Oper} {r:List Oper} {Q:Exit→Act→World→Prop} {e:TypeId} {sz:Nat} {rows:List (List Pr)} {v:Value} (j:Nat) (hj:rs[j]? =some (D8 e sz rows v))
  (k:∀(b cap:Nat) (spare:List Value),v= .slice (some ⟨b,0,none⟩) rows.length cap→rows.length≤cap→cap≤maxLen→spare.length=(cap-rows.length)*sz→TO P n ops r E (Hp M0 w0 S (rs.set j (AE true b e (rows.flatten++spare.map is)))) Q):TO P n ops r E (Hp M0 w0 S rs) Q:=
 fun m hl a w hs=>let ⟨b,cap,spare,h1,h2,h3,h4,h5⟩:=hs.RM j hj;k b cap spare h1 h2 h3 h4 m hl a w h5
theorem Kj {β:Type} {f:β→List Pr} {l:List β} {qs:List Pr} {sz:Nat} (hf:∀x,(f x).length=sz):((l.map f).flatten++qs).length=l.length*sz+qs.length:=by
 rw [List.length_append,Cw (sz:=sz) (fun r hr=>by obtain ⟨y,_,rfl⟩:=List.mem_map.1 hr;exact hf y),List.length_map]
theorem BP {β:Type} {f:β→List Pr} {l:List β} {sz:Nat} (hf:∀x,(f x).length=sz):∀r∈l.map f,r.length=sz:=fun r hr=>by obtain ⟨y,_,rfl⟩:=List.mem_map.1 hr;exact hf y
theorem Y_ {β:Type} {f:β→List Pr} {sz:Nat} (hf:∀x,(f x).length=sz) {l:List β} {qs:List Pr} {i:Nat} {x:β} (h:i<l.length):((l.map f).flatten++qs).take (0+((i:Nat):Int).toNat*sz)++f x++((l.map f).flatten++qs).drop (0+((i:Nat):Int).toNat*sz+sz)=((l.set i x).map f).flatten++qs:=by
 rw [Nat.zero_add,Int.toNat_natCast];exact N7 hf h
def Ww {β:Type} (p:β→Bool) (l st:List β) (i j:Nat):Prop:=st.length=l.length∧i<j∧j≤l.length∧st.take i=(l.take j).filter (fun x=> !p x)∧st.drop j=l.drop j
theorem lG {β:Type} {p:β→Bool} {l st:List β} {i j:Nat} {x:β} (h:Ww p l st i j) (hx:l[j]? =some x) (hp:p x=false):Ww p l (st.set i x) (i+1) (j+1):=by
 obtain ⟨h1,h2,h3,h4,h5⟩:=h
 have hj:j<l.length:=by rcases Nat.lt_or_ge j l.length with h'|h';exact h';rw [List.getElem?_eq_none h'] at hx;cases hx
 refine ⟨by rw [List.length_set,h1],by omega,hj,?_,?_⟩
 ·
  rw [List.take_add_one,List.getElem?_set_self AA,List.take_set_of_le (Nat.le_refl _),h4,List.take_add_one,hx,List.filter_append]
  simp [hp]
 · rw [List.drop_set_of_lt AA,←List.drop_drop,←List.drop_drop,h5]
theorem lH {β:Type} {p:β→Bool} {l st:List β} {i j:Nat} {x:β} (h:Ww p l st i j) (hx:l[j]? =some x) (hp:p x=true):Ww p l st i (j+1):=by
 obtain ⟨h1,h2,h3,h4,h5⟩:=h
 have hj:j<l.length:=by rcases Nat.lt_or_ge j l.length with h'|h';exact h';rw [List.getElem?_eq_none h'] at hx;cases hx
 refine ⟨h1,by omega,hj,?_,?_⟩
 · rw [h4,List.take_add_one,hx,List.filter_append];simp [hp]
 · rw [←List.drop_drop,←List.drop_drop,h5]
theorem xu {β:Type} {p:β→Bool} {l st:List β} {i j:Nat} (h:Ww p l st i j):st[j]? =l[j]? :=by
 have:=congrArg (fun q=>q[0]?) h.2.2.2.2
 simpa using this
theorem sr {β:Type} {p:β→Bool} {l st:List β} {i:Nat} (h:Ww p l st i l.length):st.take i=l.filter (fun x=> !p x)∧i=(l.filter (fun x=> !p x)).length∧st.length=l.length∧i<l.length:=by
 obtain ⟨h1,h2,h3,h4,h5⟩:=h
 rw [List.take_length] at h4
 exact ⟨h4,by rw [←h4,List.length_take];omega,h1,h2⟩
theorem St.fM {b cap sz:Nat} {e:TypeId} {rows:List (List Pr)} {qs:List Pr} (j d:Nat) {p:Pr} (hj:rs[j]? =some (AE true b e (rows.flatten++qs))) (hd:E.lookup d=some p) (hp:Pr.le p (is (.slice (some ⟨b,0,none⟩) rows.length cap)))
  (hl:∀r∈rows,r.length=sz) (hc:rows.length≤cap) (hm:cap≤maxLen) (hq:qs.length=(cap-rows.length)*sz)
  {a:Act} {w:World} (h:St n E (Hp M0 w0 S rs) a w):St n ((d,Ac (.slice (some ⟨b,0,none⟩) rows.length cap) (slice sz rows))::E) (Hp M0 w0 S (rs.set j (At e sz (.slice (some ⟨b,0,none⟩) rows.length cap)))) a w:=by
 obtain ⟨M,h1,h2,h3,h4⟩:=h
 obtain ⟨M',h5,h6,h7⟩:=Az.frz h4 hj hl hc hm hq
 refine ⟨M',h1,h2,fun s q hs=> ?_,h6⟩
 simp only [List.lookup] at hs
 split at hs
 ·
  rename_i e1
  have:s=d:=by simpa using e1
  subst this
  simp only [Option.some.injEq] at hs
  subst hs
  have h8:=hp _ _ _ (h3 _ _ hd)
  exact ⟨h8,by rw [show a.tmps.getD s undef=_ from h8];exact h7⟩
 · exact q.st _ _ _ _ _ h5 (h3 s q hs)
theorem Tr.fM {Q:Exit→Act→World→Prop} {c:Code} {b cap sz:Nat} {e:TypeId} (rows:List (List Pr)) {qs:List Pr} (j d:Nat) {p:Pr} (hj:rs[j]? =some (AE true b e (rows.flatten++qs))) (hd:E.lookup d=some p) (hp:Pr.le p (is (.slice (some ⟨b,0,none⟩) rows.length cap)))
  (hl:∀r∈rows,r.length=sz) (hc:rows.length≤cap) (hm:cap≤maxLen) (hq:qs.length=(cap-rows.length)*sz)
  (k:Tr L n ((d,Ac (.slice (some ⟨b,0,none⟩) rows.length cap) (slice sz rows))::E) (Hp M0 w0 S (rs.set j (At e sz (.slice (some ⟨b,0,none⟩) rows.length cap)))) c Q):Tr L n E (Hp M0 w0 S rs) c Q:=
 Tr.conv (fun _ _ hs=>hs.fM j d hj hd hp hl hc hm hq) k
theorem Fin.fM {Q:Exit→Act→World→Prop} {x:Exit} {b cap sz:Nat} {e:TypeId} (rows:List (List Pr)) {qs:List Pr} (j d:Nat) {p:Pr} (hj:rs[j]? =some (AE true b e (rows.flatten++qs))) (hd:E.lookup d=some p) (hp:Pr.le p (is (.slice (some ⟨b,0,none⟩) rows.length cap)))
  (hl:∀r∈rows,r.length=sz) (hc:rows.length≤cap) (hm:cap≤maxLen) (hq:qs.length=(cap-rows.length)*sz)
  (k:Fin n ((d,Ac (.slice (some ⟨b,0,none⟩) rows.length cap) (slice sz rows))::E) (Hp M0 w0 S (rs.set j (At e sz (.slice (some ⟨b,0,none⟩) rows.length cap)))) Q x):Fin n E (Hp M0 w0 S rs) Q x:=
 Fin.conv (fun _ _ hs=>hs.fM j d hj hd hp hl hc hm hq) k
end
section
variable {P:Program} {L:Lg P} {n:Fm} {fz:Nat} {E:Env} {M0:Av} {w0:World} {S:Nat→Prop} {rs:List Ap} {o:Oper} {g:Func} {M1:Av} {w1:World}
theorem Wx {β:Type} {f:β→List Pr} {l:List β} {qs:List Pr} (hf:∀x,(f x).length=1) {i:Int} {x:β} {p:Pr} (h:l[i.toNat]? =some x) (hp:f x=[p]):((l.map f).flatten++qs)[0+i.toNat*1]? =some p:=by
 have hl:∀r∈l.map f,r.length=1:=BP hf
 have hi:i.toNat<l.length:=by rcases Nat.lt_or_ge i.toNat l.length with h'|h';exact h';rw [List.getElem?_eq_none h'] at h;cases h
 have hfl:=Cw hl
 rw [List.length_map] at hfl
 rw [Nat.zero_add,List.getElem?_append_left (by rw [hfl];omega),show i.toNat*1=i.toNat*1+0 by omega,HY hl (by rw [List.getElem?_map,h];rfl) AA,hp];rfl
def Er (T:TypeId) (ps:List Pr) (v:Value):Ap:=match v with| .pointer (some a)=>AE true a.block T ps|_=>Bp
theorem CN {d j:Nat} {T:TypeId} {zs:List Value} (hg:o.guard=none) (hd:o.dst=some d) (hn:d<n) (ho:o.op= .alloc T) (hz:Bc P T=some zs) (h1':zs.all (·.oneCell')=true):
  DC P M0 w0 S n j (SR.c Bp) ⟨d,Er T (zs.map is)⟩ o E (Cp.ex fun b=>ptr b 0):=by
 refine ⟨hg,fun M w a rs WK he hI hj=> ?_⟩
 have h1:∀c∈zs,c.oneCell'=true:=fun c hc=>List.all_eq_true.1 h1' c hc
 obtain ⟨z,Eh,Ig⟩:=WS hz w
 have hrun:(execOp a.eval o).run P w= .ok (.value (.pointer (some ⟨w.heap.size,0,none⟩))) (w.alloc (.cells zs.toArray T)):=by simp [execOp,ho,Instr.alloc,Eh,newVar,newRow,←Ig]
 rw [hrun]
 have hb:Below w.heap.size w (w.alloc (.cells zs.toArray T)):=(Below.refl _ _).alloc (Nat.le_refl _) _
 have h2:=Ext.below (M:=M) hb
 have E6:Ext M w (fun b o=>M b o∨b=w.heap.size) (w.alloc (.cells zs.toArray T)):=by
  refine ⟨h2.size,fun a v hc hm=>⟨fun hx=> ?_,(h2.keep a v hc hm).2⟩,fun b o ho hp hm=>⟨fun hx=> ?_,(h2.obj b o ho hp hm).2⟩⟩
  ·
   rcases hx with hx|hx
   · exact CZ
   · exact FD
  ·
   rcases hx with hx|hx
   · exact CZ
   · exact FE
 have hs1:(w.alloc (.cells zs.toArray T)).heap.size=w.heap.size+1:=by simp
 have hat:(SR.at_ (a.put o.dst (.pointer (some ⟨w.heap.size,0,none⟩))) ⟨d,Er T (zs.map is)⟩)=AE true w.heap.size T (zs.map is):=by unfold SR.at_ Slot.val;dsimp only;rw [hd,B1 Ic];rfl
 refine ⟨fun b o=>M b o∨b=w.heap.size,⟨_,rfl⟩,E6,?_⟩
 rw [hat]
 refine hI.replace hj E6 hb.os hb.tape hb.output (fun k hk _=>hb.block k hk) rfl (fun b o hm _=> .inl hm) (fun b o hx=> ?_) ?_ rfl (fun b hbk=> ?_)
 ·
  rcases hx with hx|hx
  · have:=hI.bd _ _ hx;omega
  · omega
 · refine ⟨fun o=> .inr rfl,zs,heap_alloc_new w _,LP _ _ _,h1⟩
 ·
  have E2:some w.heap.size=some b:=hbk
  injection E2 with e1
  subst e1
  exact ⟨by rw [hs1];omega,.inr (Nat.le_refl _)⟩
theorem Cs {t:TypeId} {s:Tmp} {y:Operand} {j m:Nat} {T:TypeId} {ps qs:List Pr} (hg:o.guard=none) (hd:o.dst=none) (ho:o.op= .store t (.tmp s) y) (hx:E.lookup s=some (Cp.ex fun b=>ptr b 0)) (hy:VL E y (DK qs))
  (hz:A8 P t=some m) (hm:qs.length=m) (hl:ps.length=m):DC P M0 w0 S n j ⟨s,Er T ps⟩ ⟨s,Er T qs⟩ o E any:=by
 refine ⟨hg,fun M w a rs hsz he hI hj=> ?_⟩
 have hxv:VL E (.tmp s) (Cp.ex fun b=>ptr b 0):=⟨_,hx,Pr.le_refl _⟩
 obtain ⟨b,h1'⟩:=hxv.ev he (show (Operand.tmp s)∈o.op.operands.toList by simp [ho,Op.operands])
 have h1:a.eval (.tmp s)= .pointer (some ⟨b,0,none⟩):=h1'
 have h1t:a.tmps.getD s undef= .pointer (some ⟨b,0,none⟩):=h1
 have hj':rs[j]? =some (AE true b T ps):=by
  rw [hj];show some (Er T ps (a.tmps.getD s undef))=_;rw [h1t];rfl
 obtain ⟨h2,h3⟩:=hy.ev he (show y∈o.op.operands.toList by simp [ho,Op.operands])
 obtain ⟨⟨_,cs,h4,h5,h6⟩,_⟩:=hI.hold _ (List.mem_of_getElem? hj')
 have h5l:=h5.length
 have h2l:=h2.length
 have hcells:(a.eval y).cells.size=m:=by rw [←hm,←h2l];simp
 have hrun:(storeCells ⟨b,0,none⟩ (a.eval y).cells.toList 0).run P w= .ok () (w.setRow b (cs.take 0++(a.eval y).cells.toList++cs.drop (0+m)).toArray):=by
  have:=run_storeCells_at (P:=P) b 0 T (a.eval y).cells.toList 0 cs.toArray w h4 CE h3
  simpa [hcells] using this
 have ABh:cs.drop (0+m)=[]:=List.drop_eq_nil_of_le AA
 rw [ABh,List.take_zero,List.nil_append,List.append_nil] at hrun
 have En:(execOp a.eval o).run P w= .ok .skip (w.setRow b (a.eval y).cells.toList.toArray):=by
  simp only [execOp,ho,h1,Instr.storeAt,Instr.sureAddr,storeVar]
  simp [Cn hz,hcells,hrun]
 rw [En]
 obtain ⟨h7,h8⟩:=Az.write (qs:=qs) (cs:=(a.eval y).cells.toList) hI hj' h2 h3
 refine ⟨M,trivial,h8,?_⟩
 have hat:(SR.at_ (a.put o.dst undef) ⟨s,Er T qs⟩)=AE true b T qs:=by
  rw [hd];show Er T qs (a.tmps.getD s undef)=_;rw [h1t];rfl
 rw [hat];exact h7
theorem Fin.MN {Q:Exit→Act→World→Prop} {x:Exit} (s j:Nat) {v:Value} {f:Value→Ap} (g:Nat→Ap) (hs:E.lookup s=some (Ac v (Cp.ex fun b=>ptr b 0))) (hi:rs[j]? =some (f v)) (hf:∀b,f (.pointer (some ⟨b,0,none⟩))=g b)
  (k:∀b,Fin n ((s,ptr b 0)::E) (Hp M0 w0 S (rs.set j (g b))) Q x):Fin n E (Hp M0 w0 S rs) Q x:=by
 intro a w hst
 obtain ⟨M,h1,h2,he,h4⟩:=hst
 obtain ⟨h5,b,h6⟩:=he s _ hs
 have hv:v= .pointer (some ⟨b,0,none⟩):=by rw [←h5];exact h6
 have hj:rs.set j (g b)=rs:=by
  have hjl:j<rs.length:=by rcases Nat.lt_or_ge j rs.length with h|h;exact h;rw [List.getElem?_eq_none h] at hi;cases hi
  rw [←hf b,←hv]
  rw [List.getElem?_eq_getElem hjl] at hi
  simp at hi
  rw [←hi,List.set_getElem_self]
 refine k b a w ⟨M,h1,h2,?_,by rw [hj];exact h4⟩
 intro t q hq
 simp only [List.lookup] at hq
 by_cases ht:t=s
 · exact Km
 · exact Nr
theorem VC {β:Type} {f:β→List Pr} {sz:Nat} (hf:∀x,(f x).length=sz) {z:List Pr} (hz:z.length=sz) {l:List β} {qs:List Pr} {i m:Nat} (hm:m=l.length-((i:Nat):Int).toNat) (h:i≤l.length):
  ((l.map f).flatten++qs).take (((i:Nat):Int).toNat*sz)++(List.replicate m z).flatten++((l.map f).flatten++qs).drop (((i:Nat):Int).toNat*sz+m*sz)=((l.take i).map f).flatten++(List.replicate (l.length-i) z).flatten++qs:=by
 rw [Int.toNat_natCast] at hm ⊢;subst hm
 have hl2:∀r∈(l.take i).map f,r.length=sz:=BP hf
 have e1:i*sz+(l.length-i)*sz=((l.map f).flatten).length:=by rw [Cw (BP hf),List.length_map,←Nat.add_mul];congr 1;omega
 have e2:(l.map f).flatten=((l.take i).map f).flatten++((l.drop i).map f).flatten:=by rw [←List.flatten_append,←List.map_append,List.take_append_drop]
 have e3:(((l.take i).map f).flatten).length=i*sz:=by rw [Cw hl2,List.length_map,List.length_take];congr 1;omega
 rw [e1,List.drop_left]
 congr 2
 rw [e2,List.append_assoc,←e3,List.take_left]
end
section
variable {P:Program} {L:Lg P} {n:Fm} {fz:Nat} {E:Env} {M0:Av} {w0:World} {S:Nat→Prop} {rs:List Ap} {o:Oper}
def BQ (e:TypeId) (sz:Nat) (rows:List (List Pr)) (v:Value):Ap where
 blk:=match v with| .slice (some a) _ _=>some a.block|_=>none
 new:=true
 h M w:=(rows=[]∧v= .slice none 0 0)∨(D8 e sz rows v).h M w
 st M w M' w' he hk h:=h.imp id fun h=>(D8 e sz rows v).st M w M' w' he hk h
theorem Tr.Ht {Q:Exit→Act→World→Prop} {c:Code} (e:TypeId) (sz:Nat) (k:Tr L n E (Hp M0 w0 S (BQ e sz [] (.slice none 0 0)::rs)) c Q):Tr L n E (Hp M0 w0 S rs) c Q:=
 Tr.conv (fun _ _ ⟨M,h1,h2,h3,h4⟩=>⟨M,h1,h2,h3,Az.Ib h4 (r:=BQ e sz [] (.slice none 0 0)) rfl (Or.inl ⟨rfl,rfl⟩)⟩) k
theorem cM {M:Av} {w:World} {t ty e:TypeId} {sz bytes:Nat} {zs:List Value} {rows rows':List (List Pr)} {v u:Value} {j:Nat} (ht:P.underlying t=some (.slice e)) (hz:A8 P e=some sz) (hby:Bx P e=some bytes) (Ee:Bc P e=some zs) (hzl:zs.length=sz) (hone:zs.all (·.oneCell')=true) (hsz:0<sz)
  (h:Az M0 w0 S rs M w) (hj:rs[j]? =some (BQ e sz rows v)) (hl:∀r∈rows,r.length=sz) (hu:(slice sz rows').h M w u) (hpos:0<rows'.length) (Gy:rows.length+rows'.length≤maxLen) (hfit:(rows.length+rows'.length)*bytes≤140737488355328):
  ∃v' w' M',(Builtin.append_ #[t,t] ty #[v,u]).run P w= .ok v' w'∧(lens (rows.length+rows'.length)).h M' w' v'∧Ext M w M' w'∧Az M0 w0 S (rs.set j (BQ e sz (rows++rows') v')) M' w':=by
 have hjl:j<rs.length:=by rcases Nat.lt_or_ge j rs.length with h|h;exact h;rw [List.getElem?_eq_none h] at hj;cases hj
 rcases (h.hold _ (List.mem_of_getElem? hj)).1 with ⟨rfl,rfl⟩|lI
 ·
  have h1:=h.CU (r':=Bp) hj rfl rfl trivial
  have hj1:(rs.set j Bp)[j]? =some Bp:=List.getElem?_set_self hjl
  obtain ⟨v',w',M',hrun,h2,h3,h4⟩:=sX (ty:=ty) ht hz hby Ee hzl hone hsz h1 hj1 hu hpos Pw Pv
  rw [List.set_set] at h4
  have h5:=h4.CU (r':=BQ e sz ([]++rows') v') (List.getElem?_set_self hjl) rfl rfl (.inr (h4.hold _ (List.mem_of_getElem? (List.getElem?_set_self hjl))).1)
  rw [List.set_set] at h5
  exact ⟨v',w',M',hrun,by simpa using h2,h3,h5⟩
 ·
  obtain ⟨b,cap,spare,rfl,hnc,hcm,hsp,fN⟩:=lI
  have hC:=h.CU (r':=AE true b e (rows.flatten++spare.map is)) hj rfl rfl fN
  have hjC:(rs.set j (AE true b e (rows.flatten++spare.map is)))[j]? =some (AE true b e (rows.flatten++spare.map is)):=List.getElem?_set_self hjl
  obtain ⟨⟨hMb,cs,wE,hcs,lJ⟩,hbb⟩:=hC.hold _ (List.mem_of_getElem? hjC)
  have hfl:=Cw hl
  have jH:=hcs.length
  rw [List.length_append,hfl,List.length_map,hsp,←Nat.add_mul,show rows.length+(cap-rows.length)=cap by omega] at jH
  unfold A8 at hz
  unfold Bx at hby
  unfold Bc at Ee
  cases hi:P.info? e with
  |none=>rw [hi] at hz;cases hz
  |some i=>
   rw [hi] at hz hby Ee
   simp only [Option.map_some,Option.some.injEq,Option.map_eq_some_iff] at hz hby Ee
   obtain ⟨z,bu,Ee⟩:=Ee
   have jG:z.cells.size=sz:=by rw [←hzl,←Ee];simp
   obtain ⟨A',c',rfl,hmc,Yt,hA',G3⟩:=hu
   have Si:(slice sz rows').h M w (.slice A' rows'.length c'):=⟨A',c',rfl,hmc,Yt,hA',G3⟩
   obtain ⟨TK,rfl⟩:∃TK,A'=some TK:=by
    obtain ⟨_,b,hb,_⟩:=G3 0 _ (List.getElem?_eq_getElem hpos)
    exact ⟨b,hb⟩
   obtain ⟨news,TY,hcell⟩:=F4 hsz Si
   have Ta:=TY.1
   have hnews:=TY.hl hsz
   have hT:HL M w rows.flatten (cs.take (rows.length*sz)):=by
    have:=hcs.take (rows.length*sz)
    rwa [←hfl,List.take_left,hfl] at this
   have hne:(.slice (some ⟨b,0,none⟩) (rows++rows').length cap:Value)= .slice (some ⟨b,0,none⟩) (rows.length+rows'.length) cap:=by rw [List.length_append]
   by_cases hroom:rows.length+rows'.length≤cap
   ·
    have hle:(rows.length+rows'.length)*sz≤cap*sz:=Nat.mul_le_mul_right sz hroom
    rw [Nat.add_mul] at hle
    have hrun:=run_append_room (P:=P) (w:=w) t ty e i ht hi b rows.length cap cs.toArray wE TK rows'.length c' news (by rw [hz];exact Ta) (fun k u hk=>(hcell k u hk).1) TY.2.1 hroom (by rw [hz,Ta];simp;omega)
    rw [hz,Ta] at hrun
    have hD:HL M w ((spare.drop (rows'.length*sz)).map is) (cs.drop (rows.length*sz+rows'.length*sz)):=by
     have:=hcs.drop (rows.length*sz+rows'.length*sz)
     have e1:(rows.flatten++spare.map is).drop (rows.length*sz+rows'.length*sz)=(spare.drop (rows'.length*sz)).map is:=by rw [←hfl,←List.drop_drop,List.drop_left,List.map_drop]
     rwa [e1] at this
    obtain ⟨hW,hX⟩:=Az.write (qs:=rows.flatten++rows'.flatten++(spare.drop (rows'.length*sz)).map is) (cs:=cs.take (rows.length*sz)++news++cs.drop (rows.length*sz+rows'.length*sz)) hC hjC ((hT.app hnews).app hD) (fun c hc=>by
     simp only [List.mem_append] at hc
     rcases hc with (hc|hc)|hc
     · exact lJ c (List.mem_of_mem_take hc)
     · exact TY.2.1 c hc
     · exact lJ c (List.mem_of_mem_drop hc))
    rw [List.set_set] at hW
    refine ⟨_,_,M,hrun,⟨_,_,rfl⟩,hX,?_⟩
    have hW2 := hW.CU (r' := BQ e sz (rows ++ rows') (.slice (some ⟨b, 0, none⟩) (rows.length + rows'.length) cap)) (List.getElem?_set_self hjl) rfl rfl (.inr ⟨b, cap, spare.drop (rows'.length * sz), hne.symm, by rw [List.length_append]; exact hroom, hcm, by
     rw [List.length_drop,hsp,List.length_append,←Nat.sub_mul];congr 1;omega,by
     rw [List.flatten_append];exact (hW.hold _ (List.mem_of_getElem? (List.getElem?_set_self hjl))).1⟩)
    rw [List.set_set] at hW2
    exact hW2
   ·
    have hg:cap<rows.length+rows'.length:=by omega
    have holds:∀k u,(cs.take (rows.length*sz))[k]? =some u→w.cell? ((⟨b,0,none⟩:Addr).add k)=some u:=by
     intro k u hk
     have hk2:cs[k]? =some u:=by
      rw [List.getElem?_take] at hk
      split at hk
      · exact hk
      · cases hk
     rw [Fe]
     simp [World.cell?,wE,hk2]
    have hto:(cs.take (rows.length*sz)).length=rows.length*sz:=by rw [List.length_take,jH];exact Nat.min_eq_left (Nat.mul_le_mul_right sz hnc)
    have hrun:=run_append_grow (P:=P) (w:=w) t ty e i z ht hi bu ⟨b,0,none⟩ rows.length cap (cs.take (rows.length*sz)) (by rw [hz];exact hto) holds TK rows'.length c' news (by rw [hz];exact Ta) (fun k u hk=>(hcell k u hk).1) hg Uh (by rw [hby];exact growslice_fits hg hfit)
    generalize hcap:grownCap w (rows.length+rows'.length) cap e=cap' at hrun
    have hge:rows.length+rows'.length≤cap':=by rw [←hcap];exact grownCap_ge _ _ _ _
    have hle:cap'≤maxLen:=by rw [←hcap];exact grownCap_le_maxLen _ _ _ _ Gy
    generalize Sl:Builtin.zeroCells z.cells (cap'-(rows.length+rows'.length))=zc at hrun
    have hzs:zc.size=(cap'-(rows.length+rows'.length))*sz:=by rw [←Sl,size_zeroCells,jG]
    have hzo:∀c∈zc.toList,c.oneCell'=true:=by rw [←Sl];exact GM Ee hone
    generalize xw:((cs.take (rows.length*sz)).toArray++news.toArray++zc)=arr at hrun
    have IA:arr.toList=cs.take (rows.length*sz)++news++zc.toList:=by rw [←xw];simp
    have hb:Below w.heap.size w (w.drew.alloc (.cells arr e)):=((Below.refl _ _).drew).alloc (Nat.le_refl _) _
    have h2:=Ext.below (M:=M) hb
    have E6:Ext M w (fun b o=>M b o∨b=w.heap.size) (w.drew.alloc (.cells arr e)):=by
     refine ⟨h2.size,fun a v hc hm=>⟨fun hx=> ?_,(h2.keep a v hc hm).2⟩,fun b o ho hp hm=>⟨fun hx=> ?_,(h2.obj b o ho hp hm).2⟩⟩
     ·
      rcases hx with hx|hx
      · exact CZ
      · exact FD
     ·
      rcases hx with hx|hx
      · exact CZ
      · exact FE
    have hs1:(w.drew.alloc (.cells arr e)).heap.size=w.heap.size+1:=by simp
    refine ⟨_,_,fun b o=>M b o∨b=w.heap.size,hrun,⟨_,_,rfl⟩,E6,?_⟩
    refine h.replace hj E6 hb.os hb.tape hb.output (fun k hk _=>hb.block k hk) rfl (fun b o hm _=> .inl hm) (fun b o hx=> ?_) ?_ rfl (fun b hbk=> ?_)
    ·
     rcases hx with hx|hx
     · exact MX
     · omega
    ·
     refine .inr ⟨w.heap.size,cap',zc.toList,by rw [List.length_append],by rw [List.length_append];exact hge,hle,by rw [List.length_append];simpa using hzs,fun o=> .inr rfl,arr.toList,?_,?_,?_⟩
     ·
      have hh:(w.drew.alloc (.cells arr e)).heap[w.heap.size]? =some (.cells arr e (0,0)):=heap_alloc_new w.drew _
      rw [hh]
     · rw [IA,List.flatten_append];exact ((hT.st E6).app ((TY.st E6).hl hsz)).app (LP _ _ _)
     ·
      intro c hc
      rw [IA] at hc
      simp only [List.mem_append] at hc
      rcases hc with (hc|hc)|hc
      · exact lJ c (List.mem_of_mem_take hc)
      · exact TY.2.1 c hc
      · exact hzo c hc
    ·
     have E2:some w.heap.size=some b:=hbk
     injection E2 with e1
     subst e1
     exact ⟨by rw [hs1];omega,.inr (Nat.le_refl _)⟩
theorem FM {t e:TypeId} {x y:Operand} {sz bytes d:Nat} {zs:List Value} {rows rows':List (List Pr)} {v:Value} {p:Pr} {j:Nat} (hg:o.guard=none) (hd:o.dst=some d) (hn:d<n) (ho:o.op= .call { callee:= .builtin .append,args:= #[x,y],argTypes:= #[t,t] })
  (ht:P.underlying t=some (.slice e)) (hz:A8 P e=some sz) (hby:Bx P e=some bytes) (Ee:Bc P e=some zs) (hzl:zs.length=sz) (hone:zs.all (·.oneCell')=true) (hsz:0<sz)
  (hx:VL E x (Ac v p)) (hy:VL E y (slice sz rows')) (hl:∀r∈rows,r.length=sz) (hpos:0<rows'.length) (Gy:rows.length+rows'.length≤maxLen) (hfit:(rows.length+rows'.length)*bytes≤140737488355328):DC P M0 w0 S n j (SR.c (BQ e sz rows v)) ⟨d,BQ e sz (rows++rows')⟩ o E (lens (rows.length+rows'.length)):=by
 refine ⟨hg,fun M w a rs WK he hI hj=> ?_⟩
 have h1:a.eval x=v:=(hx.ev he DH).1
 have h2:=hy.ev he DH
 obtain ⟨v',w',M',hrun,h3,h4,h5⟩:=cM (ty:=o.type) ht hz hby Ee hzl hone hsz hI hj hl h2 hpos Gy hfit
 have En:(execOp a.eval o).run P w= .ok (.value v') w':=by simp [execOp,ho,resolve,invoke,builtin,h1,hrun]
 rw [En]
 refine ⟨M',h3,h4,?_⟩
 have:(SR.at_ (a.put o.dst v') ⟨d,BQ e sz (rows++rows')⟩)=BQ e sz (rows++rows') v':=by unfold SR.at_ Slot.val;dsimp only;rw [hd,B1 Ic]
 rw [this];exact h5
theorem Az.ZA {M:Av} {w:World} {sz:Nat} {e:TypeId} {rows:List (List Pr)} {v:Value} {j:Nat} (h:Az M0 w0 S rs M w) (hj:rs[j]? =some (BQ e sz rows v)) (hl:∀r∈rows,r.length=sz):
  ∃M',Ext M w M' w∧Az M0 w0 S (rs.set j (At e sz v)) M' w∧(slice sz rows).h M' w v:=by
 have hjl:j<rs.length:=by rcases Nat.lt_or_ge j rs.length with h|h;exact h;rw [List.getElem?_eq_none h] at hj;cases hj
 rcases (h.hold _ (List.mem_of_getElem? hj)).1 with ⟨rfl,rfl⟩|lI
 · exact ⟨M,Ext.refl _ _,h.CU hj rfl rfl Uj,AQ sz M w _ rfl⟩
 ·
  obtain ⟨b,cap,spare,rfl,hnc,hcm,hsp,fN⟩:=lI
  have hC:=h.CU (r':=AE true b e (rows.flatten++spare.map is)) hj rfl rfl fN
  obtain ⟨M',h1,h2,h3⟩:=Az.frz hC (List.getElem?_set_self hjl) hl hnc hcm (by rw [List.length_map];exact hsp)
  rw [List.set_set] at h2
  exact ⟨M',h1,h2,h3⟩
end
section
variable {P:Program} {L:Lg P} {n:Fm} {fz:Nat} {E:Env} {M0:Av} {w0:World} {S:Nat→Prop} {rs:List Ap} {o:Oper} {ops:Array Oper} {r:List Oper}
def ABi (P:Program) (f:FuncId) (args:List Pr) (res:Pr) (r:Ap) (r':Ap) (r2:Ap):Prop:=Entry P f∧∀M0 w0 S rs M w vs,Az M0 w0 S (r::r2::rs) M w→HL M w args vs→
 Calls P f vs.toArray w fun e w'=>∃v M',e= .returned v∧res.h M' w' v∧Ext M w M' w'∧Az M0 w0 S (r'::r2::rs) M' w'
theorem ABi.of {f : FuncId} {g : Func} {c : Code} {ps : List Pr} {res : Pr} {R R' R2 : Ap} (hf : P.funcs[f]? = some g) (hb : g.body = some c) (hname : (g.name == "runtime.NumGoroutine") = false) (hlen : ps.length ≤ g.ntmps)
  (h:∀M0 w0 S rs M1 w1,Tr (YK P) g.ntmps (Ln 0 ps) (Hp M0 w0 S (R::Ak M1 w1::R2::rs)) c (bodyPost P g (Mi M0 w0 S (R2::rs) M1 w1 res (fun _=>R')))):ABi P f ps res R R' R2:=by
 refine ⟨⟨g,hf,hname,by rw [hb];rfl⟩,fun M0 w0 S rs M w vs hI hv=> ?_⟩
 refine calls_of_wp hf hb (h M0 w0 S rs M w _ _ ⟨M,?_,rfl,F0 hv,?_⟩)
 ·
  have:=hv.length
  simp [this];omega
 · exact Yk
end
abbrev Ge (k:IntKind):Pr:=Cp.ex fun i:Int=>is (.int k i)
theorem DA (k:IntKind) (i:Int):Pr.le (is (.int k i)) (Ge k):=fun _ _ _ h=>⟨i,h⟩
section
variable {P:Program} {L:Lg P} {I:Ce} {o:Oper} {E:Env}
theorem sy {op:BinOp} {t u:TypeId} {x y:Operand} {k:IntKind} (hop:(op== .xor||op== .or)=true) (ho:o.op= .binOp op t x y u) (hx:VL E x (Ge k)) (hy:VL E y (Ge k)):Ae P I o E (Ge k):=
 Ae.same fun M w a he _=>by
  obtain ⟨m,h1⟩:=hx.ev he Ar
  obtain ⟨n,h2⟩:=hy.ev he Ar
  have h1:a.eval x= .int k m:=h1
  have h2:a.eval y= .int k n:=h2
  cases op<;>simp at hop<;>exact ⟨_,by simp [execOp,ho,h1,h2,eqGuard,binOp,Op.intBits];rfl,_,rfl⟩
end
theorem Tc {β:Type} {f:β→List Pr} {l:List β} {qs:List Pr} {sz:Nat} (hf:∀x,(f x).length=sz) {i:Int} (h:i.toNat<l.length):((((l.map f).flatten++qs).drop (0+i.toNat*sz)).take sz)=f (l[i.toNat]'h):=by
 rw [Nat.zero_add];exact lF hf (List.getElem?_eq_getElem h)
theorem GA {β:Type} {f:β→List Pr} {sz:Nat} (hf:∀x,(f x).length=sz) {l:List β} {qs:List Pr} {i:Int} {x:β} (h:i.toNat<l.length):((l.map f).flatten++qs).take (0+i.toNat*sz)++f x++((l.map f).flatten++qs).drop (0+i.toNat*sz+sz)=((l.set i.toNat x).map f).flatten++qs:=by
 rw [Nat.zero_add];exact N7 hf h
theorem RT {β:Type} {l:List β} {i j:Int} (hi:i.toNat<l.length) (hj:j.toNat<l.length):((l.set i.toNat (l[j.toNat]'hj)).set j.toNat (l[i.toNat]'hi)).Perm l:=List.set_set_perm hi hj
section
variable {P:Program} {L:Lg P} {n:Fm} {fz:Nat} {E:Env} {M0:Av} {w0:World} {S:Nat→Prop} {rs:List Ap} {o:Oper} {β:Type} {b:Nat} {e:TypeId} {f:β→List Pr} {qs:List Pr} {Φ:List β→Prop}
def EV (b:Nat) (e:TypeId) (f:β→List Pr) (Φ:List β→Prop) (qs:List Pr):Ap where
 blk:=some b
 new:=true
 h M w:=∃st:List β,Φ st∧(AE true b e ((st.map f).flatten++qs)).h M w
 st M w M' w' he hk h:=let ⟨st,h1,h2⟩:=h;⟨st,h1,(AE true b e ((st.map f).flatten++qs)).st M w M' w' he hk h2⟩
theorem St.J5 (j:Nat) (hj:rs[j]? =some (EV b e f Φ qs)) {a:Act} {w:World} (h:St n E (Hp M0 w0 S rs) a w):
  ∃st:List β,Φ st∧St n E (Hp M0 w0 S (rs.set j (AE true b e ((st.map f).flatten++qs)))) a w:=by
 obtain ⟨M,h1,h2,h3,h4⟩:=h
 have h4:Az M0 w0 S rs M w:=h4
 obtain ⟨st,hp,h8⟩:=(h4.hold _ (List.mem_of_getElem? hj)).1
 exact ⟨st,hp,M,h1,h2,h3,h4.CU hj rfl rfl h8⟩
theorem Tr.J5 {Q:Exit→Act→World→Prop} {c:Code} (j:Nat) (hj:rs[j]? =some (EV b e f Φ qs))
  (k:∀st:List β,Φ st→Tr L n E (Hp M0 w0 S (rs.set j (AE true b e ((st.map f).flatten++qs)))) c Q):Tr L n E (Hp M0 w0 S rs) c Q:=
 fun a w hs=>let ⟨st,h1,h2⟩:=hs.J5 j hj;k st h1 a w h2
theorem Fin.J5 {Q:Exit→Act→World→Prop} {x:Exit} (j:Nat) (hj:rs[j]? =some (EV b e f Φ qs))
  (k:∀st:List β,Φ st→Fin n E (Hp M0 w0 S (rs.set j (AE true b e ((st.map f).flatten++qs)))) Q x):Fin n E (Hp M0 w0 S rs) Q x:=
 fun a w hs=>let ⟨st,h1,h2⟩:=hs.J5 j hj;k st h1 a w h2
theorem TO.J5 {Q:Exit→Act→World→Prop} {ops:Array Oper} {r:List Oper} (j:Nat) (hj:rs[j]? =some (EV b e f Φ qs))
  (k:∀st:List β,Φ st→TO P n ops r E (Hp M0 w0 S (rs.set j (AE true b e ((st.map f).flatten++qs)))) Q):TO P n ops r E (Hp M0 w0 S rs) Q:=
 fun m hl a w hs=>let ⟨st,h1,h2⟩:=hs.J5 j hj;k st h1 m hl a w h2
theorem St.Gf {st:List β} (j:Nat) (hj:rs[j]? =some (AE true b e ((st.map f).flatten++qs))) (hp:Φ st) {a:Act} {w:World} (h:St n E (Hp M0 w0 S rs) a w):St n E (Hp M0 w0 S (rs.set j (EV b e f Φ qs))) a w:=by
 obtain ⟨M,h1,h2,h3,h4⟩:=h
 have h4:Az M0 w0 S rs M w:=h4
 exact ⟨M,h1,h2,h3,h4.CU hj rfl rfl ⟨st,hp,(h4.hold _ (List.mem_of_getElem? hj)).1⟩⟩
theorem Tr.Gf {Q:Exit→Act→World→Prop} {c:Code} {st:List β} (Φ:List β→Prop) (j:Nat) (hj:rs[j]? =some (AE true b e ((st.map f).flatten++qs))) (hp:Φ st)
  (k:Tr L n E (Hp M0 w0 S (rs.set j (EV b e f Φ qs))) c Q):Tr L n E (Hp M0 w0 S rs) c Q:=Tr.conv (fun _ _ hs=>hs.Gf j hj hp) k
theorem Fin.Gf {Q:Exit→Act→World→Prop} {x:Exit} {st:List β} (Φ:List β→Prop) (j:Nat) (hj:rs[j]? =some (AE true b e ((st.map f).flatten++qs))) (hp:Φ st)
  (k:Fin n E (Hp M0 w0 S (rs.set j (EV b e f Φ qs))) Q x):Fin n E (Hp M0 w0 S rs) Q x:=Fin.conv (fun _ _ hs=>hs.Gf j hj hp) k
instance (priority:=300) ABj (b:Bool) (p:Prop) [h:DU b false p]:DU (!b) true p:=⟨fun e=>h.D7 (by simpa using e)⟩
instance (priority:=300) ABk (b:Bool) (p:Prop) [h:DU b true p]:DU (!b) false p:=⟨fun e=>h.D7 (by simpa using e)⟩
end
end Cp
namespace Cp
open Go.Sort
section
variable {β:Type} [Inhabited β] {c:β×β→Int} {st:List β} {a b i j:Int}
def ltc (c:β×β→Int) (x y:β):Bool:=decide (c (x,y)<0)
theorem gx (h:i.toNat<st.length):st.toArray[i.toNat]! =st[i.toNat]:=by simp [h]
theorem sw (hi:i.toNat<st.length) (hj:j.toNat<st.length):((st.set i.toNat (st[j.toNat]'hj)).set j.toNat (st[i.toNat]'hi)).toArray=swp st.toArray i.toNat j.toNat:=by
 unfold swp
 rw [gx hi,gx hj]
 simp [Array.setIfInBounds_def,hi,hj]
omit [Inhabited β] in
theorem ABl {x y:β} (h:¬c (x,y)<0):ltc c x y=false:=decide_eq_false h
variable {hi F r:Int}
variable {lt:β→β→Bool} {a0 b0 m n:Nat} {l s s':Array β}
structure PS (lt:β→β→Bool) (a0 b0 a b:Nat) (l s:Array β):Prop where
 ha:a0≤a
 hab:a≤b
 hb:b≤b0
 hp:PermIn a0 b0 l s
 below:Below lt a b s
 out:∀i j,a0≤i→i<j→j<b0→(i<a∨b≤j)→lt s[j]! s[i]! =false
theorem PS.perm (h:PS lt a0 b0 m n l s) (hs:b0≤l.size) (hq:PermIn m n s s'):PS lt a0 b0 m n l s':=by
 have hsz:s.size=l.size:=h.hp.1
 have hns:n≤s.size:=by have:=h.hb;omega
 refine ⟨h.ha,h.hab,h.hb,permIn_trans _ _ _ _ _ h.hp (permIn_mono _ _ _ _ _ _ h.ha h.hb AA hq),Below.permA permIn_all hns h.below hq,fun i j h1 h2 h3 h4=> ?_⟩
 have hm:=h.hab
 by_cases hi:m≤i∧i<n
 ·
  have hj:n≤j:=by omega
  rw [hq.2.1 j (.inr hj)]
  exact permIn_all s s' m n (fun x=>lt s[j]! x=false) hns hq (fun k hk1 hk2=>h.out k j (by have:=h.ha;omega) AA h3 (.inr hj)) i hi.1 hi.2
 ·
  rw [hq.2.1 i AA]
  by_cases hj:m≤j∧j<n
  · exact permIn_all s s' m n (fun x=>lt x s[i]! =false) hns hq (fun k hk1 hk2=>h.out i k h1 AA (by have:=h.hb;omega) (.inl AA)) j hj.1 hj.2
  · rw [hq.2.1 j AA];exact h.out i j h1 h2 h3 h4
theorem PS.done (h:PS lt a0 b0 m n l s) (hs:SortedIn lt m n s):PermIn a0 b0 l s∧SortedIn lt a0 b0 s:=by
 refine ⟨h.hp,fun i j h1 h2 h3=> ?_⟩
 by_cases hh:i<m∨n≤j
 · exact h.out i j h1 h2 h3 hh
 · exact hs i j AA h2 AA
theorem PS.eq (hw:SWO lt) (h:PS lt a0 b0 m n l s) (hs:b0≤l.size) {pv:β} {k:Nat} (hm:0<m) (kC:lt s[m-1]! pv=false) (hk:m<k) (hkn:k≤n) (hq:PermIn m n s s') (h1:∀i,m≤i→i<k→lt pv s'[i]! =false) (h2:∀i,k≤i→i<n→lt pv s'[i]! =true):
  PS lt a0 b0 k n l s':=by
 have h':=h.perm hs hq
 have hle:∀j,m≤j→j<n→lt s'[j]! pv=false:=by
  intro j hj1 hj2
  by_cases hjk:k≤j
  · exact hw.asym (h2 j hjk hj2)
  ·
   have hb:=h'.below
   rcases hb with hb|hb
   · omega
   ·
    have hb:=hb j hj1 hj2
    rw [hq.2.1 (m-1) (.inl AA)] at hb
    exact hw.ntrans _ _ _ hb kC
 have key:∀i j,m≤i→i<k→m≤j→j<n→lt s'[j]! s'[i]! =false:=fun i j ha hb hc hd=>hw.ntrans _ _ _ (hle j hc hd) (h1 i ha hb)
 refine ⟨by have:=h.ha;omega,hkn,h.hb,h'.hp,.inr fun i hi1 hi2=>key (k-1) i AA AA AA hi2,fun i j g1 g2 g3 g4=> ?_⟩
 by_cases hh:i<m∨n≤j
 · exact h'.out i j g1 g2 g3 hh
 · exact key i j AA AA AA AA
structure lK (lt:β→β→Bool) (m n k:Nat) (s:Array β):Prop where
 h1:m≤k
 h2:k<n
 lo:∀i,m≤i→i<k→lt s[i]! s[k]! =true
 up:∀i,k<i→i<n→lt s[i]! s[k]! =false
theorem PS.left (hw:SWO lt) {k:Nat} (h:PS lt a0 b0 m n l s) (hs:b0≤l.size) (hp:lK lt m n k s) (hq:PermIn m k s s') (hso:SortedIn lt m k s'):PS lt a0 b0 (k+1) n l s':=by
 obtain ⟨h1,h2,lo,up⟩:=hp
 have hsz:s.size=l.size:=h.hp.1
 have hks:k≤s.size:=by have:=h.hb;omega
 have fA:PermIn m n s s':=permIn_mono _ _ _ _ _ _ (Nat.le_refl _) AA (by have:=h.hb;omega) hq
 have h':=h.perm hs fA
 have ek:s'[k]! =s[k]! :=hq.2.1 k (.inr (Nat.le_refl _))
 have lo':∀i,m≤i→i<k→lt s'[i]! s[k]! =true:=fun i g1 g2=>permIn_all s s' m k (fun x=>lt x s[k]! =true) hks hq lo i g1 g2
 have up':∀i,k<i→i<n→lt s'[i]! s[k]! =false:=fun i g1 g2=>by rw [hq.2.1 i (.inr AA)];exact up i g1 g2
 refine ⟨by have:=h.ha;omega,by omega,h.hb,h'.hp,.inr fun i g1 g2=> ?_,fun i j g1 g2 g3 g4=> ?_⟩
 · rw [show k+1-1=k by omega,ek];exact up' i AA g2
 ·
  by_cases hh:i<m∨n≤j
  · exact h'.out i j g1 g2 g3 hh
  ·
   rcases Nat.lt_trichotomy i k with hik|hik|hik
   ·
    rcases Nat.lt_trichotomy j k with hjk|hjk|hjk
    · exact hso i j AA g2 hjk
    · subst hjk;rw [ek];exact hw.asym (lo' i AA hik)
    · exact bN
   · subst hik;rw [ek];exact up' j g2 AA
   · omega
theorem PS.right (hw:SWO lt) {k:Nat} (h:PS lt a0 b0 m n l s) (hs:b0≤l.size) (hp:lK lt m n k s) (hq:PermIn (k+1) n s s') (hso:SortedIn lt (k+1) n s'):PS lt a0 b0 m k l s':=by
 obtain ⟨h1,h2,lo,up⟩:=hp
 have hsz:s.size=l.size:=h.hp.1
 have hns:n≤s.size:=by have:=h.hb;omega
 have fA:PermIn m n s s':=permIn_mono _ _ _ _ _ _ AA (Nat.le_refl _) hns hq
 have h':=h.perm hs fA
 have ek:s'[k]! =s[k]! :=hq.2.1 k (.inl AA)
 have lo':∀i,m≤i→i<k→lt s'[i]! s[k]! =true:=fun i g1 g2=>by rw [hq.2.1 i (.inl AA)];exact lo i g1 g2
 have up':∀i,k<i→i<n→lt s'[i]! s[k]! =false:=fun i g1 g2=>permIn_all s s' (k+1) n (fun x=>lt x s[k]! =false) hns hq (fun i q1 q2=>up i AA q2) i AA g2
 refine ⟨h.ha,h1,by have:=h.hb;omega,h'.hp,?_,fun i j g1 g2 g3 g4=> ?_⟩
 ·
  rcases h'.below with hb|hb
  · exact .inl hb
  · exact .inr fun i q1 q2=>hb i q1 AA
 ·
  by_cases hh:i<m∨n≤j
  · exact h'.out i j g1 g2 g3 hh
  ·
   rcases Nat.lt_trichotomy i k with hik|hik|hik
   ·
    rcases Nat.lt_trichotomy j k with hjk|hjk|hjk
    · omega
    · subst hjk;rw [ek];exact hw.asym (lo' i AA hik)
    · exact bN
   · subst hik;rw [ek];exact up' j g2 AA
   · exact hso i j AA g2 AA
end
section
variable {β:Type} [Inhabited β] {c:β×β→Int} {st:List β}
def Adj (c:β×β→Int) (a b:Int) (l:List β):Prop:=∀k,a.toNat<k→k<b.toNat→ltc c l.toArray[k]! l.toArray[k-1]! =false
theorem Adj.go {a i k:Int} (h:Adj c a i st) (h0:0≤a) (ha:a<i) (hk:k=i-1) (hi:i.toNat<st.length) (hk':k.toNat<st.length) (hc:0≤c (st[i.toNat]'hi,st[k.toNat]'hk')):Adj c a (i+1) st:=fun m h1 h2=>by
 rcases Nat.lt_or_ge m i.toNat with hm|hm
 · exact h m h1 hm
 ·
  have e:m=i.toNat:=by omega
  subst e
  rw [show i.toNat-1=k.toNat by omega,gx hi,gx hk'];exact ABl AA
end
section
variable {β:Type} [Inhabited β]
def JN (a b:Int) (l st:List β):Prop:=PermIn a.toNat b.toNat l.toArray st.toArray
def wF (c:β×β→Int) (a b:Int) (l st:List β):Prop:=PermIn a.toNat b.toNat l.toArray st.toArray∧SortedIn (ltc c) a.toNat b.toNat st.toArray
theorem JN.len {a b:Int} {l st:List β} (h:JN a b l st):st.length=l.length:=by have:=h.1;simpa using this
theorem wF.len {c:β×β→Int} {a b:Int} {l st:List β} (h:wF c a b l st):st.length=l.length:=by have:=h.1.1;simpa using this
def wG (c:β×β→Int) (hi first lo:Int) (l st:List β):Prop:=st.length=l.length∧st.toArray=siftDown (ltc c) hi.toNat first.toNat lo.toNat l.toArray
theorem wG.len {c:β×β→Int} {hi first lo:Int} {l st:List β} (h:wG c hi first lo l st):st.length=l.length:=h.1
abbrev PE (c:β×β→Int) (a b pv:Int) (l:List β):Nat×Array β:=partitionEqual (ltc c) l.toArray a.toNat b.toNat pv.toNat
abbrev PA (c:β×β→Int) (a b pv:Int) (l:List β):Nat×Bool×Array β:=partition (ltc c) l.toArray a.toNat b.toNat pv.toNat
def wH (c:β×β→Int) (a b pv:Int) (l st:List β):Prop:=st.length=l.length∧st.toArray=(PE c a b pv l).2
def wI (c:β×β→Int) (a b pv:Int) (l st:List β):Prop:=st.length=l.length∧st.toArray=(PA c a b pv l).2.2
theorem wH.len {c:β×β→Int} {a b pv:Int} {l st:List β} (h:wH c a b pv l st):st.length=l.length:=h.1
theorem wI.len {c:β×β→Int} {a b pv:Int} {l st:List β} (h:wI c a b pv l st):st.length=l.length:=h.1
theorem JN.refl (a b:Int) (l:List β):JN a b l l:=permIn_refl _ _ _
theorem JN.swap {a b i j:Int} {l st:List β} (h:JN a b l st) (hi:i.toNat<st.length) (hj:j.toNat<st.length) (h1:a.toNat≤i.toNat) (h2:i.toNat<b.toNat) (h3:a.toNat≤j.toNat) (h4:j.toNat<b.toNat) (hb:b.toNat≤l.length):
  JN a b l ((st.set i.toNat (st[j.toNat]'hj)).set j.toNat (st[i.toNat]'hi)):=by
 unfold JN
 rw [sw hi hj]
 exact permIn_trans _ _ _ _ _ h (swp_permIn _ _ _ _ _ h1 h2 h3 h4 (by have:=h.len;simp;omega))
theorem JN.trans {a b:Int} {l m st:List β} (h:JN a b l m) (k:JN a b m st):JN a b l st:=permIn_trans _ _ _ _ _ h k
end
section
open Go
variable {P:Program} {L:Lg P} {n:Fm} {fz:Nat} {E:Env} {M0:Av} {w0:World} {S:Nat→Prop} {rs:List Ap} {new:Bool} {b:Nat} {T:TypeId} {ps:List Pr}
end
end Cp
namespace Cp
open Go Go.RowKit Go.Great
section
variable {P:Program} {L:Lg P} {n:Fm} {fz:Nat} {E:Env} {I:Ce} {Q:Exit→Act→World→Prop}
theorem Tr.P6 {α0 α1:Type} (K:Env) (hK:CV E K) (F:α0→α1→Value→Env) (Ii:α0→α1→Value→Ce) (C:α0→α1→Prop) {x y:Code} (h:Tr L n E I x (Exit.then (fun a w=>∃x0 x1 v0,C x0 x1∧St n (F x0 x1 v0++K) (Ii x0 x1 v0) a w) Q))
  (k:∀x0 x1 v0,C x0 x1→Tr L n (F x0 x1 v0++K) (Ii x0 x1 v0) y Q):Tr L n E I (.seq x y) Q:=
 Tr.cut (fun y:α0×α1×Value=>F y.1 y.2.1 y.2.2++K) (fun y=>Ii y.1 y.2.1 y.2.2) (fun y=>C y.1 y.2.1) (Tr.post h fun e a w h=>by cases e<;>first|exact h|(obtain ⟨x0,x1,v0,h1,h2⟩:=h;exact ⟨(x0,x1,v0),h1,h2⟩)) fun y hy=>k y.1 y.2.1 y.2.2 hy
end
section
variable {P:Program} {L:Lg P} {n:Fm} {fz:Nat} {E:Env} {M0:Av} {w0:World} {S:Nat→Prop} {rs:List Ap} {β:Type} {e:TypeId} {sz:Nat} {f:β→List Pr} {Φ:List β→Prop} {v:Value}
def RU (e:TypeId) (sz:Nat) (f:β→List Pr) (Φ:List β→Prop) (v:Value):Ap where
 blk:=match v with| .slice (some a) _ _=>some a.block|_=>none
 new:=true
 h M w:=∃st:List β,Φ st∧(BQ e sz (st.map f) v).h M w
 st M w M' w' he hk h:=let ⟨st,h1,h2⟩:=h;⟨st,h1,(BQ e sz (st.map f) v).st M w M' w' he hk h2⟩
theorem Ba.s7 {g:FuncId} {l:List β} {ps:List Pr} {res:Pr} [Ja res] (h0:l=[]→BC P g (is (.slice none 0 0)::ps) res∧Φ [])
  (h1:∀(b cap:Nat) (sp:List Value),Ba P g (is (.slice (some ⟨b,0,none⟩) l.length cap)::ps) res (AE true b e ((l.map f).flatten++sp.map is)) (fun _=>EV b e f Φ (sp.map is)))
  (hl:∀st,Φ st→st.length=l.length) (hE:Entry P g):Ba P g (is v::ps) res (BQ e sz (l.map f) v) (fun _=>RU e sz f Φ v):=by
 refine ⟨hE,fun M0 w0 S rs M w vs hI hv=> ?_⟩
 have hb0:=hI.hold _ (List.mem_cons_self ..)
 rcases hb0.1 with ⟨hnil,rfl⟩|lI
 ·
  have hln:l=[]:=by simpa using hnil
  obtain ⟨h01,h02⟩:=h0 hln
  refine (h01.2 M w vs hI.bd hv).mono ?_
  rintro e' w' ⟨u,rfl,h2,h3⟩
  have P0:Az M0 w0 S (BQ e sz (l.map f) (.slice none 0 0)::rs) M w':=(Hp M0 w0 S _).st _ _ _ h3 hI
  exact ⟨u,M,rfl,Ja.free _ _ _ _ h2,Ext.below h3,P0.CU (i:=0) rfl rfl rfl ⟨[],h02,.inl ⟨rfl,rfl⟩⟩⟩
 ·
  obtain ⟨b,cap,spare,rfl,hnc,hcm,hsp,fN⟩:=lI
  have hC:=hI.CU (i:=0) (r':=AE true b e ((l.map f).flatten++spare.map is)) rfl rfl rfl fN
  have hlm:(l.map f).length=l.length:=List.length_map ..
  rw [hlm] at hv
  refine ((h1 b cap spare).2 M0 w0 S rs M w vs hC hv).mono ?_
  rintro e' w' ⟨u,M',rfl,h2,h3,h4⟩
  refine ⟨u,M',rfl,h2,h3,?_⟩
  obtain ⟨st,hp,hst⟩:=(h4.hold _ (List.mem_cons_self ..)).1
  have hlen:(st.map f).length=(l.map f).length:=by rw [List.length_map,List.length_map,hl st hp]
  exact h4.CU (i:=0) rfl rfl rfl ⟨st,hp,.inr ⟨b,cap,spare,by rw [hlen],by rw [hlen];exact hnc,hcm,by rw [hlen];exact hsp,hst⟩⟩
theorem St.lM (j d:Nat) {p:Pr} (hj:rs[j]? =some (RU e sz f Φ v)) (hd:E.lookup d=some (Ac v p)) (hf:∀x,(f x).length=sz) {a:Act} {w:World} (hs:St n E (Hp M0 w0 S rs) a w):
  ∃st:List β,Φ st∧St n ((d,Ac v (slice sz (st.map f)))::E) (Hp M0 w0 S (rs.set j (At e sz v))) a w:=by
 obtain ⟨M,h1,h2,h3,h4⟩:=hs
 have h4:Az M0 w0 S rs M w:=h4
 have hjl:j<rs.length:=by rcases Nat.lt_or_ge j rs.length with h|h;exact h;rw [List.getElem?_eq_none h] at hj;cases hj
 obtain ⟨st,hp,hst⟩:=(h4.hold _ (List.mem_of_getElem? hj)).1
 have h5:=h4.CU (r':=BQ e sz (st.map f) v) hj rfl rfl hst
 obtain ⟨M',h6,h7,h8⟩:=Az.ZA h5 (List.getElem?_set_self hjl) (BP hf)
 rw [List.set_set] at h7
 refine ⟨st,hp,M',h1,h2,fun s q hq=> ?_,h7⟩
 simp only [List.lookup] at hq
 split at hq
 ·
  rename_i e1
  have:s=d:=by simpa using e1
  subst this
  simp only [Option.some.injEq] at hq
  subst hq
  have h9:=(h3 _ _ hd).1
  exact ⟨h9,by rw [h9];exact h8⟩
 · exact q.st _ _ _ _ _ h6 (h3 s q hq)
theorem TO.lM {Q:Exit→Act→World→Prop} {ops:Array Oper} {r:List Oper} (j d:Nat) {p:Pr} (hj:rs[j]? =some (RU e sz f Φ v)) (hd:E.lookup d=some (Ac v p)) (hf:∀x,(f x).length=sz)
  (k:∀st:List β,Φ st→TO P n ops r ((d,Ac v (slice sz (st.map f)))::E) (Hp M0 w0 S (rs.set j (At e sz v))) Q):TO P n ops r E (Hp M0 w0 S rs) Q:=
 fun m hl a w hs=>let ⟨st,h1,h2⟩:=hs.lM j d hj hd hf;k st h1 m hl a w h2
theorem Tr.lM {Q:Exit→Act→World→Prop} {c:Code} (j d:Nat) {p:Pr} (hj:rs[j]? =some (RU e sz f Φ v)) (hd:E.lookup d=some (Ac v p)) (hf:∀x,(f x).length=sz)
  (k:∀st:List β,Φ st→Tr L n ((d,Ac v (slice sz (st.map f)))::E) (Hp M0 w0 S (rs.set j (At e sz v))) c Q):Tr L n E (Hp M0 w0 S rs) c Q:=
 fun a w hs=>let ⟨st,h1,h2⟩:=hs.lM j d hj hd hf;k st h1 a w h2
theorem St.s8 {rows:List (List Pr)} (j d:Nat) {p:Pr} (hj:rs[j]? =some (BQ e sz rows v)) (hd:E.lookup d=some (Ac v p)) (hf:∀r∈rows,r.length=sz) {a:Act} {w:World} (hs:St n E (Hp M0 w0 S rs) a w):
  St n ((d,Ac v (slice sz rows))::E) (Hp M0 w0 S (rs.set j (At e sz v))) a w:=by
 obtain ⟨M,h1,h2,h3,h4⟩:=hs
 have h4:Az M0 w0 S rs M w:=h4
 obtain ⟨M',h6,h7,h8⟩:=Az.ZA h4 hj hf
 refine ⟨M',h1,h2,fun s q hq=> ?_,h7⟩
 simp only [List.lookup] at hq
 split at hq
 ·
  rename_i e1
  have:s=d:=by simpa using e1
  subst this
  simp only [Option.some.injEq] at hq
  subst hq
  have h9:=(h3 _ _ hd).1
  exact ⟨h9,by rw [h9];exact h8⟩
 · exact q.st _ _ _ _ _ h6 (h3 s q hq)
theorem Tr.s8 {Q:Exit→Act→World→Prop} {c:Code} {rows:List (List Pr)} (j d:Nat) {p:Pr} (hj:rs[j]? =some (BQ e sz rows v)) (hd:E.lookup d=some (Ac v p)) (hf:∀r∈rows,r.length=sz)
  (k:Tr L n ((d,Ac v (slice sz rows))::E) (Hp M0 w0 S (rs.set j (At e sz v))) c Q):Tr L n E (Hp M0 w0 S rs) c Q:=
 fun a w hs=>k a w (hs.s8 j d hj hd hf)
theorem GR {rows:List (List Pr)} (h:rows=[]):Pr.le (is (.slice none 0 0)) (Ac (.slice none 0 0) (lens rows.length)):=by
 subst h;exact fun _ _ _ hv=>⟨hv,⟨none,0,by rw [hv];rfl⟩⟩
theorem C2 {v:Value} {a b:Nat} (h:a=b):Pr.le (Ac v (lens a)) (Ac v (lens b)):=by subst h;exact Pr.le_refl _
end
section
variable {P:Program} {L:Lg P} {n:Fm} {fz:Nat} {E:Env} {M0:Av} {w0:World} {S:Nat→Prop} {rs:List Ap} {o:Oper}
end
section
variable {P:Program} {L:Lg P} {n:Fm} {fz:Nat} {E:Env} {M0:Av} {w0:World} {S:Nat→Prop} {rs:List Ap} {ε:Type} {res:ε→List Ap}
def HI (res:ε→List Ap) (es:List ε):List Ap:=es.flatMap res
theorem VD:∀{es:List ε} {k:Nat} {x:ε},es[k]? =some x→(HI res es).Perm (res x++HI res (es.eraseIdx k))
 |[],_,_,h=>by simp at h
 |a::es,0,x,h=>by
  simp only [List.getElem?_cons_zero,Option.some.injEq] at h
  subst h
  exact List.Perm.refl _
 |a::es,k+1,x,h=>by
  have ih:=VD (es:=es) (k:=k) (x:=x) Du
  show (res a++HI res es).Perm (res x++(res a++HI res (es.eraseIdx k)))
  refine (ih.append_left (res a)).trans ?_
  rw [←List.append_assoc,←List.append_assoc]
  exact List.perm_append_comm.append_right _
theorem cN:∀{es:List ε} {k:Nat} (x:ε),k<es.length→(res x++HI res (es.eraseIdx k)).Perm (HI res (es.set k x))
 |[],_,_,h=>absurd h (Nat.not_lt_zero _)
 |a::es,0,x,_=>List.Perm.refl _
 |a::es,k+1,x,h=>by
  have ih:=cN (es:=es) (k:=k) x Du
  show (res x++(res a++HI res (es.eraseIdx k))).Perm (res a++HI res (es.set k x))
  refine List.Perm.trans ?_ (ih.append_left (res a))
  rw [←List.append_assoc,←List.append_assoc]
  exact List.perm_append_comm.append_right _
theorem Wy (es:List ε) (x:ε):HI res (es++[x])=HI res es++res x:=by unfold HI;simp
theorem RV {a b c:List Ap} (h:b.Perm c):(a++b).Perm (a++c):=h.append_left a
theorem St.perm {rs':List Ap} (hp:rs.Perm rs') {a:Act} {w:World} (h:St n E (Hp M0 w0 S rs) a w):St n E (Hp M0 w0 S rs') a w:=by
 obtain ⟨M,h1,h2,h3,h4⟩:=h
 exact ⟨M,h1,h2,h3,Az.perm hp h4⟩
theorem Tr.focus {Q:Exit→Act→World→Prop} {c:Code} (Cl:List Ap) {es:List ε} {k:Nat} {x:ε} (hx:es[k]? =some x) (PO:rs=Cl++HI res es) (kk:Tr L n E (Hp M0 w0 S (res x++(Cl++HI res (es.eraseIdx k)))) c Q):Tr L n E (Hp M0 w0 S rs) c Q:=
 Tr.conv (fun _ _ hs=>hs.perm (by
  subst PO
  refine (RV (VD hx)).trans ?_
  rw [←List.append_assoc,←List.append_assoc]
  exact List.perm_append_comm.append_right _)) kk
theorem My (Cl:List Ap) {es:List ε} {k:Nat} (x:ε) (hk:k<es.length) (PO:rs=res x++(Cl++HI res (es.eraseIdx k))):rs.Perm (Cl++HI res (es.set k x)):=by
 subst PO
 refine List.Perm.trans ?_ (RV (cN x hk))
 rw [←List.append_assoc,←List.append_assoc]
 exact List.perm_append_comm.append_right _
theorem Fin.VE {Q:Exit→Act→World→Prop} {e:Exit} (Cl:List Ap) {es:List ε} {k:Nat} (x:ε) (hk:k<es.length) (PO:rs=res x++(Cl++HI res (es.eraseIdx k))) (kk:Fin n E (Hp M0 w0 S (Cl++HI res (es.set k x))) Q e):Fin n E (Hp M0 w0 S rs) Q e:=
 Fin.conv (fun _ _ hs=>hs.perm (My Cl x hk PO)) kk
theorem Tr.VE {Q:Exit→Act→World→Prop} {c:Code} (Cl:List Ap) {es:List ε} {k:Nat} (x:ε) (hk:k<es.length) (PO:rs=res x++(Cl++HI res (es.eraseIdx k))) (kk:Tr L n E (Hp M0 w0 S (Cl++HI res (es.set k x))) c Q):Tr L n E (Hp M0 w0 S rs) c Q:=
 Tr.conv (fun _ _ hs=>hs.perm (My Cl x hk PO)) kk
theorem Tr.fold {Q:Exit→Act→World→Prop} {c:Code} (Cl:List Ap) {es:List ε} (x:ε) (PO:rs=res x++(Cl++HI res es)) (kk:Tr L n E (Hp M0 w0 S (Cl++HI res (es++[x]))) c Q):Tr L n E (Hp M0 w0 S rs) c Q:=
 Tr.conv (fun _ _ hs=>hs.perm (by
  subst PO
  rw [Wy,←List.append_assoc Cl]
  exact List.perm_append_comm)) kk
theorem Tr.ABm {Q:Exit→Act→World→Prop} {c:Code} {e:TypeId} {sz:Nat} {rows:List (List Pr)} {v:Value} (j:Nat) (hj:rs[j]? =some (BQ e sz rows v)) (hne:rows≠[])
  (k:∀(b cap:Nat) (sp:List Value),v= .slice (some ⟨b,0,none⟩) rows.length cap→rows.length≤cap→cap≤maxLen→sp.length=(cap-rows.length)*sz→Tr L n E (Hp M0 w0 S (rs.set j (AE true b e (rows.flatten++sp.map is)))) c Q):Tr L n E (Hp M0 w0 S rs) c Q:=by
 intro a w hs
 obtain ⟨M,h1,h2,h3,h4⟩:=hs
 have h4:Az M0 w0 S rs M w:=h4
 rcases (h4.hold _ (List.mem_of_getElem? hj)).1 with ⟨h5,_⟩|⟨b,cap,sp,rfl,h5,h6,h7,h8⟩
 · exact absurd h5 hne
 · exact k b cap sp rfl h5 h6 h7 a w ⟨M,h1,h2,h3,h4.CU hj rfl rfl h8⟩
end
section
variable {P:Program} {L:Lg P} {n:Fm} {fz:Nat} {E:Env} {M0:Av} {w0:World} {S:Nat→Prop} {rs:List Ap} {o:Oper}
end
section
variable {P:Program} {L:Lg P} {n:Fm} {fz:Nat} {E:Env} {M0:Av} {w0:World} {S:Nat→Prop} {rs:List Ap} {o:Oper}
theorem Ba.ZB {f:FuncId} {e:TypeId} {sz:Nat} {rows:List (List Pr)} {ps:List Pr} {res:Pr} {R:Ap} (h:Ba P f ps res R (fun v=>D8 e sz rows v)):Ba P f ps res R (fun v=>BQ e sz rows v):=by
 refine ⟨h.1,fun M0 w0 S rs M w vs hI hv=>(h.2 M0 w0 S rs M w vs hI hv).mono ?_⟩
 rintro e' w' ⟨v,M',rfl,h2,h3,h4⟩
 exact ⟨v,M',rfl,h2,h3,h4.CU (i:=0) rfl rfl rfl (.inr (h4.hold _ (List.mem_cons_self ..)).1)⟩
instance zq (p q:Pr) [Ja p] [Ja q]:Ja (D6 [p,q]):=⟨fun M M' w v ⟨cs,h1,h2⟩=>⟨cs,h1,by
 match cs,h2 with
 |[a,b],h2=>exact ⟨Ja.free _ _ _ _ h2.1,Ja.free _ _ _ _ h2.2.1,trivial⟩⟩⟩
end
section
variable {P:Program} {L:Lg P} {n:Fm} {fz:Nat} {E:Env} {M0:Av} {w0:World} {S:Nat→Prop} {o:Oper}
end
section
variable {P:Program} {L:Lg P} {n:Fm} {fz:Nat} {E:Env} {M0:Av} {w0:World} {S:Nat→Prop} {rs:List Ap} {ε:Type} {res:ε→List Ap}
theorem Az.VF {Φ:ε→Av→World→Prop} {w:World} (hst:∀x M M',Ext M w M' w→Φ x M w→Φ x M' w) (h1:∀x rs M,Az M0 w0 S (res x++rs) M w→∃M',Ext M w M' w∧Az M0 w0 S rs M' w∧Φ x M' w):
  ∀(X:List ε) (Cl:List Ap) (M:Av),Az M0 w0 S (Cl++HI res X) M w→∃M',Ext M w M' w∧Az M0 w0 S Cl M' w∧∀x∈X,Φ x M' w
 |[],Cl,M,h=>⟨M,Ext.refl _ _,by simpa [HI] using h,fun x hx=>by simp at hx⟩
 |x::X,Cl,M,h=>by
  have hp:(Cl++HI res (x::X)).Perm (res x++(Cl++HI res X)):=by
   show (Cl++(res x++HI res X)).Perm _
   rw [←List.append_assoc,←List.append_assoc]
   exact List.perm_append_comm.append_right _
  obtain ⟨M1,g1,g2,g3⟩:=h1 x _ M (Az.perm hp h)
  obtain ⟨M2,k1,k2,k3⟩:=Az.VF hst h1 X Cl M1 g2
  refine ⟨M2,g1.trans k1,k2,fun y hy=> ?_⟩
  rcases List.mem_cons.1 hy with rfl|hy
  · exact hst _ _ _ k1 g3
  · exact k3 y hy
theorem Tr.eqC {Q:Exit→Act→World→Prop} {c:Code} (j:Nat) {new:Bool} {b:Nat} {T:TypeId} {ps:List Pr} (qs:List Pr) (hi:rs[j]? =some (AE new b T ps)) (h:ps=qs) (k:Tr L n E (Hp M0 w0 S (rs.set j (AE new b T qs))) c Q):Tr L n E (Hp M0 w0 S rs) c Q:=by
 subst h;exact Tr.H8 j ps hi (Q7.rfl' ps) k
theorem Fin.eqC {Q:Exit→Act→World→Prop} {e:Exit} (j:Nat) {new:Bool} {b:Nat} {T:TypeId} {ps:List Pr} (qs:List Pr) (hi:rs[j]? =some (AE new b T ps)) (h:ps=qs) (k:Fin n E (Hp M0 w0 S (rs.set j (AE new b T qs))) Q e):Fin n E (Hp M0 w0 S rs) Q e:=by
 subst h;exact Fin.H8 j ps hi (Q7.rfl' ps) k
theorem lN {e:TypeId} {sz:Nat} {rows rows':List (List Pr)} {v:Value} {M:Av} {w:World} (hl:rows.length=rows'.length) (hf:rows.flatten.length=rows'.flatten.length) (h:∀vs,HL M w rows.flatten vs→HL M w rows'.flatten vs) (ho:(BQ e sz rows v).h M w):(BQ e sz rows' v).h M w:=by
 rcases ho with ⟨h1,h2⟩|⟨b,cap,sp,h1,h2,h3,h4,h5,cs,h6,h7,h8⟩
 ·
  refine .inl ⟨?_,h2⟩
  subst h1
  exact List.length_eq_zero_iff.1 hl.symm
 ·
  refine .inr ⟨b,cap,sp,by rw [←hl];exact h1,by rw [←hl];exact h2,h3,by rw [←hl];exact h4,h5,cs,h6,?_,h8⟩
  have e1:=h7.take rows.flatten.length
  have e2:=h7.drop rows.flatten.length
  rw [List.take_left] at e1
  rw [List.drop_left] at e2
  have:=(h _ e1).app e2
  rwa [List.take_append_drop] at this
theorem Tr.VF {Q:Exit→Act→World→Prop} {c:Code} {X:List ε} {Φ:ε→Av→World→Prop} {e:TypeId} {sz d:Nat} {f g:ε→List Pr} {v:Value} {p:Pr} (Cl:List Ap) (PO:rs=BQ e sz (X.map f) v::Cl++HI res X) (hd:E.lookup d=some (Ac v p)) (hf:∀x,(f x).length=sz) (hg:∀x,(g x).length=sz)
  (hst:∀x M M' w,Ext M w M' w→Φ x M w→Φ x M' w) (h1:∀x rs M w,Az M0 w0 S (res x++rs) M w→∃M',Ext M w M' w∧Az M0 w0 S rs M' w∧Φ x M' w) (h2:∀x M w vs,Φ x M w→HL M w (f x) vs→HL M w (g x) vs)
  (k:Tr L n ((d,Ac v (slice sz (X.map g)))::E) (Hp M0 w0 S (At e sz v::Cl)) c Q):Tr L n E (Hp M0 w0 S rs) c Q:=by
 subst PO
 intro a w hs
 obtain ⟨M,k1,k2,k3,k4⟩:=hs
 have k4:Az M0 w0 S ((BQ e sz (X.map f) v::Cl)++HI res X) M w:=k4
 obtain ⟨M1,g1,g2,g3⟩:=Az.VF (Φ:=Φ) (fun x M M'=>hst x M M' w) (fun x rs M=>h1 x rs M w) X _ M k4
 have hlen:∀(f:ε→List Pr),(∀x,(f x).length=sz)→(X.map f).flatten.length=X.length*sz:=fun f hf=>by
  rw [Cw (BP hf),List.length_map]
 have hown:(BQ e sz (X.map g) v).h M1 w:=by
  refine lN AV (by rw [hlen f hf,hlen g hg]) (fun vs hvs=> ?_) (g2.hold _ (List.mem_cons_self ..)).1
  have key:∀(Y:List ε) (vs:List Value),(∀x∈Y,Φ x M1 w)→HL M1 w (Y.map f).flatten vs→HL M1 w (Y.map g).flatten vs:=by
   intro Y
   induction Y with
   |nil=>intro vs _ h;exact h
   |cons y Y ih=>
    intro vs hY h
    rw [List.map_cons,List.flatten_cons] at h ⊢
    have e1:=h.take (f y).length
    have e2:=h.drop (f y).length
    rw [List.take_left] at e1
    rw [List.drop_left] at e2
    have:=(h2 y M1 w _ (hY y (List.mem_cons_self ..)) e1).app (ih _ (fun x hx=>hY x (List.mem_cons_of_mem _ hx)) e2)
    rwa [List.take_append_drop] at this
  exact key X vs g3 hvs
 have g4:=g2.CU (i:=0) (r':=BQ e sz (X.map g) v) rfl rfl rfl hown
 obtain ⟨M2,j1,j2,j3⟩:=Az.ZA (j:=0) g4 rfl (BP hg)
 refine k a w ⟨M2,k1,k2,fun s q hq=> ?_,j2⟩
 have hE:Ext M w M2 w:=g1.trans j1
 simp only [List.lookup] at hq
 split at hq
 ·
  rename_i e1
  have:s=d:=by simpa using e1
  subst this
  simp only [Option.some.injEq] at hq
  subst hq
  have h9:=(k3 _ _ hd).1
  exact ⟨h9,by rw [h9];exact j3⟩
 · exact q.st _ _ _ _ _ hE (k3 s q hq)
end
section
variable {P:Program} {L:Lg P} {n:Fm} {fz:Nat} {E:Env} {M0:Av} {w0:World} {S:Nat→Prop} {o:Oper}
theorem Wz {I:Ce} {t e:TypeId} {x:Operand} {m:Nat} (ho:o.op= .call { callee:= .builtin .len,args:= #[x],argTypes:= #[t] }) (ht:P.underlying t=some (.slice e)) (hx:VL E x (lens m)):Ae P I o E (int m):=
 Ae.same fun M w a he _=>by
  obtain ⟨A,c,h1⟩:=hx.ev he DH
  exact ⟨.int .i64 m,by simp [execOp,ho,resolve,invoke,builtin,Builtin.len_,h1,run_underlying ht,goInt],rfl⟩
end
end Cp
namespace Cp
open Go Go.RowKit
section
variable {P:Program} {L:Lg P} {I:Ce} {o:Oper} {E:Env}
theorem fO {c y:Operand} {b d:Bool} (ho:o.op= .pick c (.const (.bool true)) y) (hc:VL E c (bool b)) (hy:VL E y (bool d)):Ae P I o E (bool (b||d)):=by
 cases b with
 |true=>exact F1 ho hc rfl (vl rfl)
 |false=>exact Ku ho hc rfl hy
theorem ZC {c x:Operand} {b d:Bool} (ho:o.op= .pick c x (.const (.bool false))) (hc:VL E c (bool b)) (hx:VL E x (bool d)):Ae P I o E (bool (b&&d)):=by
 cases b with
 |true=>exact F1 ho hc rfl hx
 |false=>exact Ku ho hc rfl (vl rfl)
theorem RW {β:Type} {g:β→Pr} {l:List β} {qs:List Pr} {i:Int} (h:i.toNat<l.length):((l.map fun x=>[g x]).flatten++qs)[0+i.toNat*1]? =some (g (l[i.toNat]'h)):=
 Wx (f:=fun x=>[g x]) (fun _=>rfl) (List.getElem?_eq_getElem h) rfl
end
section
variable {P:Program} {L:Lg P} {n:Fm} {fz:Nat} {E:Env} {M0:Av} {w0:World} {S:Nat→Prop} {rs:List Ap} {o:Oper}
end
end Cp
namespace Cp
open Go Go.RowKit Go.Great
def Fj {α:Type} (P:Program) (f:FuncId) (args:List Pr) (pre:List Ap) (C:α→Prop) (res:α→Pr) (post:α→List Ap):Prop:=Entry P f∧∀M0 w0 S rs M w vs,Az M0 w0 S (pre++rs) M w→HL M w args vs→
 Calls P f vs.toArray w fun e w'=>∃v M' x,e= .returned v∧C x∧(res x).h M' w' v∧Ext M w M' w'∧Az M0 w0 S (post x++rs) M' w'
def Ot {α:Type} (M0:Av) (w0:World) (S:Nat→Prop) (rs:List Ap) (M1:Av) (w1:World) (C:α→Prop) (res:α→Pr) (post:α→List Ap) (e:Ending) (w':World):Prop:=∃v M' x,e= .returned v∧C x∧(res x).h M' w' v∧Ext M1 w1 M' w'∧Az M0 w0 S (post x++rs) M' w'
section
variable {P:Program} {L:Lg P} {n:Fm} {fz:Nat} {E:Env} {M0:Av} {w0:World} {S:Nat→Prop} {rs:List Ap} {α:Type} {pre:List Ap} {C:α→Prop} {res:α→Pr} {post:α→List Ap} {M1:Av} {w1:World} {g:Func} {o:Oper} {r:List Oper} {ops:Array Oper}
theorem Fj.of {f : FuncId} {c : Code} {ps : List Pr} (hf : P.funcs[f]? = some g) (hb : g.body = some c) (hname : (g.name == "runtime.NumGoroutine") = false) (hlen : ps.length ≤ g.ntmps)
  (h:∀M0 w0 S rs M1 w1,Tr (YK P) g.ntmps (Ln 0 ps) (Hp M0 w0 S (pre++Ak M1 w1::rs)) c (bodyPost P g (Ot M0 w0 S rs M1 w1 C res post))):Fj P f ps pre C res post:=by
 refine ⟨⟨g,hf,hname,by rw [hb];rfl⟩,fun M0 w0 S rs M w vs hI hv=> ?_⟩
 refine calls_of_wp hf hb (h M0 w0 S rs M w _ _ ⟨M,?_,rfl,F0 hv,?_⟩)
 ·
  have:=hv.length
  simp [this];omega
 · exact Yl
theorem Az.RY {M:Av} {w:World} {f:FuncId} {args:List Pr} {rest:List Ap} (hf:Fj P f args pre C res post) (hp:rs.Perm (pre++rest)) (hI:Az M0 w0 S rs M w) {vs:List Value} (hv:HL M w args vs):
  Calls P f vs.toArray w fun e w'=>∃v M' x,e= .returned v∧C x∧(res x).h M' w' v∧Ext M w M' w'∧Az M0 w0 S (post x++rest) M' w':=hf.2 M0 w0 S rest M w vs (Az.perm hp hI) hv
theorem TO.RY {Q:Exit→Act→World→Prop} {f:FuncId} {xs:Array Operand} {ts:Array TypeId} {ps:List Pr} (rest:List Ap) {d:Nat} (hg:o.guard=none) (hd:o.dst=some d) (hn:d<n) (ho:o.op= .call { callee:= .value (.func f),args:=xs,argTypes:=ts }) (hf:Fj P f ps pre C res post)
  (hv:Gz E xs.toList ps) (hp:rs.Perm (pre++rest)) (k:∀x,C x→TO P n ops r ((d,res x)::E) (Hp M0 w0 S (post x++rest)) Q):TO P n ops (o::r) E (Hp M0 w0 S rs) Q:=
 TO.fD hg fun K M w a hsz hdf he hI hK=>by
  have hI:Az M0 w0 S rs M w:=hI
  have h1:=Gz.FZ (o:=o) (CW he) (xs:=xs.toList) (fun x hx=>by simp [ho,Op.operands,Call.operands];exact .inr FX) hv
  have hrun:(execOp a.eval o).run P w= .ok (.enter f (xs.toList.map a.eval).toArray) w:=by
   simp [execOp,ho,resolve,Deferred.ofValue,Act.eval,invoke,DB hf.1,GU xs]
  unfold Oper.wp
  rw [hrun]
  refine (Az.RY hf hp hI h1).mono ?_
  rintro e w' ⟨v,M',x,rfl,hC,h2,h3,h4⟩
  refine hK _ _ _ _ (k x hC) ⟨M',by rw [B6];exact hsz,by rw [put_defers];exact hdf,?_,h4⟩
  intro s q hq
  simp only [List.lookup] at hq
  by_cases hs:s=d
  · subst hs;simp at hq;subst hq;rw [hd,B1 Gx];exact h2
  · rw [show (s==d)=false by simpa using hs] at hq;rw [hd,BW hs];exact q.st _ _ _ _ _ h3 (he s q hq)
theorem Hu {l:List Ap} {M:Av} {w:World} (h:Az M0 w0 S (l++Ak M1 w1::rs) M w):Ext M1 w1 M w∧Az M0 w0 S (l++rs) M w:=
 ⟨(h.hold (Ak M1 w1) AV).1,(Az.perm List.perm_middle h).JK⟩
theorem Fin.wJ {rv:ResultVar} {q:Pr} {rs':List Ap} (x:α) (hr:g.results= #[rv]) (h:AM P E rs' rv q) (hC:C x) (hl:Pr.le q (res x)) (hp:rs'.Perm (post x++Ak M1 w1::rs)):
  Fin ⟨fz,[]⟩ E (Hp M0 w0 S rs') (bodyPost P g (Ot M0 w0 S rs M1 w1 C res post)) .ret:=by
 rintro a w ⟨M,_,hd,he,hi⟩
 have hi:Az M0 w0 S rs' M w:=hi
 obtain ⟨v,hv,hp'⟩:=h M w a he (fun q hq=>(hi.hold q hq).1)
 obtain ⟨h1,h2⟩:=Hu (Az.perm hp hi)
 exact ⟨hd,v,results1 hr hv,_,M,x,rfl,hC,hl _ _ _ hp',h1,h2⟩
theorem Fin.Ou {rv rv':ResultVar} {q q':Pr} {rs':List Ap} (x:α) (hr:g.results= #[rv,rv']) (h:AM P E rs' rv q) (h':AM P E rs' rv' q') (hC:C x) (hl:Pr.le (D6 [q,q']) (res x)) (hp:rs'.Perm (post x++Ak M1 w1::rs)):
  Fin ⟨fz,[]⟩ E (Hp M0 w0 S rs') (bodyPost P g (Ot M0 w0 S rs M1 w1 C res post)) .ret:=by
 rintro a w ⟨M,_,hd,he,hi⟩
 have hi:Az M0 w0 S rs' M w:=hi
 obtain ⟨v,hv,PR⟩:=h M w a he (fun q hq=>(hi.hold q hq).1)
 obtain ⟨v',kW,hp2⟩:=h' M w a he (fun q hq=>(hi.hold q hq).1)
 obtain ⟨h1,h2⟩:=Hu (Az.perm hp hi)
 exact ⟨hd,_,results2 hr hv kW,_,M,x,rfl,hC,hl _ _ _ ⟨[_,_],rfl,PR,hp2,trivial⟩,h1,h2⟩
end
section
variable {P:Program} {L:Lg P} {n:Fm} {fz:Nat} {E:Env} {M0:Av} {w0:World} {S:Nat→Prop} {rs:List Ap} {o:Oper}
def xx:Value→Option Nat
 | .slice (some a) _ (_+1)=>some a.block
 |_=>none
def Bs (e:TypeId) (sz:Nat) (rows:List (List Pr)) (v:Value):Ap where
 blk:=xx v
 new:=true
 h M w:=(rows=[]∧∃A,v= .slice A 0 0)∨(∃(b cap:Nat) (spare:List Value),v= .slice (some ⟨b,0,none⟩) rows.length (cap+1)∧rows.length≤cap+1∧cap+1≤maxLen∧spare.length=(cap+1-rows.length)*sz∧(AE true b e (rows.flatten++spare.map is)).h M w)
 st M w M' w' he hk h:=by
  rcases h with h|⟨b,cap,spare,rfl,h1,h2,h3,h4⟩
  · exact .inl h
  · exact .inr ⟨b,cap,spare,rfl,h1,h2,h3,(AE true b e _).st _ _ _ _ he hk h4⟩
theorem BN {α:Type} {l:List α} {j:Nat} {x:α} (h:l[j]? =some x):j<l.length:=by
 rcases Nat.lt_or_ge j l.length with h'|h'
 · exact h'
 · rw [List.getElem?_eq_none h'] at h;cases h
theorem Az.blank {M:Av} {w:World} {j:Nat} {r:Ap} (h:Az M0 w0 S rs M w) (hj:rs[j]? =some r):Az M0 w0 S (rs.set j Bp) M w:=
 Az.perm (Mh (BN hj)) ((Az.perm (DT hj) h).JK.Ib (r:=Bp) rfl trivial)
theorem RZ (sz:Nat) (A:Option Addr) (M:Av) (w:World):(slice sz []).h M w (.slice A 0 0):=⟨A,0,rfl,Nat.le_refl _,Nat.zero_le _,fun _=>rfl,fun i row h=>by simp at h⟩
theorem fP (sz:Nat) (A:Option Addr) (M:Av) (w:World):(full sz []).h M w (.slice A 0 0):=⟨RZ sz A M w,A,rfl⟩
theorem Az.xy {M:Av} {w:World} {sz:Nat} {e:TypeId} {rows:List (List Pr)} {v:Value} {j:Nat} (h:Az M0 w0 S rs M w) (hj:rs[j]? =some (Bs e sz rows v)) (hl:∀r∈rows,r.length=sz):
  ∃M',Ext M w M' w∧Az M0 w0 S (rs.set j Bp) M' w∧(slice sz rows).h M' w v:=by
 have hjl:=BN hj
 rcases (h.hold _ (List.mem_of_getElem? hj)).1 with ⟨rfl,A,rfl⟩|⟨b,cap,spare,rfl,hnc,hcm,hsp,fN⟩
 · exact ⟨M,Ext.refl _ _,h.blank hj,RZ sz A M w⟩
 ·
  have hC:=h.CU (r':=AE true b e (rows.flatten++spare.map is)) hj rfl rfl fN
  obtain ⟨M',h1,h2,h3⟩:=Az.frz hC (List.getElem?_set_self hjl) hl hnc hcm (by rw [List.length_map];exact hsp)
  have h4:=h2.blank (j:=j) (by rw [List.set_set];exact List.getElem?_set_self hjl)
  rw [List.set_set,List.set_set] at h4
  exact ⟨M',h1,h4,h3⟩
theorem HL.set {M:Av} {w:World} {ps:List Pr} {vs:List Value} {k:Nat} {p q:Pr} (h:HL M w ps vs) (hk:ps[k]? =some p) (hq:∀u,p.h M w u→q.h M w u):HL M w (ps.set k q) vs:=by
 refine TX (by rw [h.length];simp) fun k' p' hk'=> ?_
 rw [List.getElem?_set] at hk'
 split at hk'
 ·
  rename_i e1
  subst e1
  split at hk'
  ·
   obtain ⟨u,hu,hpu⟩:=h.at_ k p hk
   simp at hk';subst hk'
   exact ⟨u,hu,hq u hpu⟩
  · cases hk'
 · exact h.at_ k' p' hk'
theorem Az.JO {M:Av} {w:World} {i j k sz b:Nat} {new:Bool} {T e:TypeId} {ps:List Pr} {rows:List (List Pr)} {v:Value} (h:Az M0 w0 S rs M w) (hi:rs[i]? =some (AE new b T ps)) (hj:rs[j]? =some (Bs e sz rows v)) (hij:j≠i) (hk:ps[k]? =some (is v)) (hl:∀r∈rows,r.length=sz):
  ∃M',Ext M w M' w∧Az M0 w0 S ((rs.set j Bp).set i (AE new b T (ps.set k (slice sz rows)))) M' w:=by
 obtain ⟨M',h1,h2,h3⟩:=h.xy hj hl
 have hi':(rs.set j Bp)[i]? =some (AE new b T ps):=by rw [List.getElem?_set_ne hij];exact hi
 refine ⟨M',h1,h2.CU hi' rfl rfl ?_⟩
 obtain ⟨g1,cs,g2,g3,g4⟩:=(h2.hold _ (List.mem_of_getElem? hi')).1
 exact ⟨g1,cs,g2,g3.set hk (fun u hu=>by rw [show u=v from hu];exact h3),g4⟩
def part (sz:Nat) (v:Value) (k:Nat):Pr where
 h _ _ u:=∃a m c,v= .slice a m c∧k≤m∧u= .slice (if c=k then a else a.map fun x=>x.add (k*sz)) (m-k) (c-k)
 st _M _w _M' _w' _v _ h:=h
instance ABn (sz:Nat) (v:Value) (k:Nat):One (part sz v k):=⟨by rintro M w u ⟨a,m,c,h1,h2,rfl⟩;exact ⟨rfl,rfl⟩⟩
theorem Ba.frz {f:FuncId} {args:List Pr} {e:TypeId} {sz m:Nat} {rows:List (List Pr)} {R:Ap} (hl:∀r∈rows,r.length=sz) (h:Ba P f args (lens m) R (fun v=>BQ e sz rows v)):Ba P f args (slice sz rows) R (fun _=>Bp):=by
 refine ⟨h.1,fun M0 w0 S rs M w vs hI hv=>(h.2 M0 w0 S rs M w vs hI hv).mono ?_⟩
 rintro e' w' ⟨v,M',rfl,h2,h3,h4⟩
 obtain ⟨M2,j1,j2,j3⟩:=Az.ZA (j:=0) h4 rfl hl
 exact ⟨v,M2,rfl,j3,h3.trans j1,j2.blank (j:=0) rfl⟩
theorem Ba.ABo {f:FuncId} {args:List Pr} {e:TypeId} {sz m:Nat} {rows:List (List Pr)} {R:Ap} (hl:∀r∈rows,r.length=sz) (h:Ba P f args (lens m) R (fun v=>D8 e sz rows v)):Ba P f args (slice sz rows) R (fun _=>Bp):=
 Ba.frz hl (Ba.ZB h)
theorem Ba.Ra {f:FuncId} {e:TypeId} {sz:Nat} {rows:List (List Pr)} {ps:List Pr} {res:Pr} {R:Ap} (h0:rows≠[]) (h:Ba P f ps res R (fun v=>D8 e sz rows v)):Ba P f ps res R (fun v=>Bs e sz rows v):=by
 refine ⟨h.1,fun M0 w0 S rs M w vs hI hv=>(h.2 M0 w0 S rs M w vs hI hv).mono ?_⟩
 rintro e' w' ⟨v,M',rfl,h2,h3,h4⟩
 refine ⟨v,M',rfl,h2,h3,?_⟩
 have hpos:=List.length_pos_iff.2 h0
 obtain ⟨b,cap,spare,rfl,hnc,hcm,hsp,fN⟩:=(h4.hold _ (List.mem_cons_self ..)).1
 cases cap with
 |zero=>omega
 |succ cap=>exact h4.CU (i:=0) rfl rfl rfl (.inr ⟨b,cap,spare,rfl,hnc,hcm,hsp,fN⟩)
theorem Ba.W0 {f:FuncId} {e:TypeId} {sz sz':Nat} {ps:List Pr} (h:BC P f ps (full sz' [])):Ba P f ps (lens 0) Bp (fun v=>Bs e sz [] v):=by
 refine ⟨h.1,fun M0 w0 S rs M w vs hI hv=>(h.2 M w vs hI.bd hv).mono ?_⟩
 rintro e' w' ⟨v,rfl,⟨_,a,rfl⟩,h3⟩
 refine ⟨_,M,rfl,⟨_,_,rfl⟩,Ext.below h3,?_⟩
 have P0:Az M0 w0 S (Bp::rs) M w':=(Hp M0 w0 S _).st _ _ _ h3 hI
 exact P0.CU (i:=0) (r':=Bs e sz [] (.slice a 0 0)) rfl (by cases a<;>rfl) rfl (.inl ⟨rfl,a,rfl⟩)
def elp (sz:Nat) (v:Value) (i o:Nat):Pr where
 h _ _ u:=∃a m c,v= .slice (some a) m c∧u= .pointer (some (a.add (i*sz+o)))
 st _M _w _M' _w' _v _ h:=h
instance AD9 (sz:Nat) (v:Value) (k o:Nat):One (elp sz v k o):=⟨by rintro M w u ⟨a,m,c,h1,rfl⟩;exact ⟨rfl,rfl⟩⟩
theorem J6 {t e:TypeId} {x y:Operand} {k:IntKind} {l:Int} {sz j:Nat} {T:TypeId} {rows:List (List Pr)} {v:Value} (ho:o.op= .indexAddr t x y) (ht:P.underlying t=some (.slice e)) (hz:A8 P e=some sz) (hx:VL E x (is v)) (hy:VL E y (is (.int k l))) (h0:0≤l) (hl:l<rows.length):
  Jy P M0 w0 S j (SR.c (Bs T sz rows v)) o E (elp sz v l.toNat 0):=by
 intro M w a rs he hI hj
 have h1:a.eval x=v:=hx.ev he Ar
 have h3:a.eval y= .int k l:=hy.ev he Ar
 have hj':rs[j]? =some (Bs T sz rows v):=hj
 rcases (hI.hold _ (List.mem_of_getElem? hj')).1 with ⟨rfl,A,hv⟩|⟨b,cap,spare,hv,hnc,hcm,hsp,fN⟩
 · simp at hl;omega
 ·
  have hrun:(execOp a.eval o).run P w= .ok (.value (.pointer (some ((⟨b,0,none⟩:Addr).add (l.toNat*sz))))) w:=by
   simp [execOp,ho,h1,h3,hv,Instr.indexAt,asIntOf,run_underlying ht,Cn hz,h0,hl]
  rw [hrun]
  exact ⟨⟨_,_,_,hv,rfl⟩,Below.refl _ _⟩
theorem ZD {I:Ce} {t:TypeId} {x:Operand} {f sz i q off:Nat} {v:Value} (ho:o.op= .fieldAddr t x f) (hf:Ab P t f=some off) (hx:VL E x (elp sz v i q)):Ae P I o E (elp sz v i (q+off)):=
 Ae.same fun M w a he _=>by
  obtain ⟨a0,m0,c0,hv,h1⟩:=hx.ev he Ar
  exact ⟨.pointer (some ((a0.add (i*sz+q)).add off)),by simp [execOp,ho,h1,Jw hf],a0,m0,c0,hv,by rw [add_add,Nat.add_assoc]⟩
theorem fQ {t:TypeId} {x:Operand} {sz j i:Nat} {T:TypeId} {rows:List (List Pr)} {row:List Pr} {v:Value} (ho:o.op= .load t x) (ht:Fb P t=true) (hz:A8 P t=some sz) (hx:VL E x (elp sz v i 0)) (hl:∀r∈rows,r.length=sz) (hi:rows[i]? =some row):
  Jy P M0 w0 S j (SR.c (Bs T sz rows v)) o E (agg row):=by
 intro M w a rs he hI hj
 obtain ⟨a0,m0,c0,bw,h1⟩:=hx.ev he Ar
 rw [Nat.add_zero] at h1
 have hj':rs[j]? =some (Bs T sz rows v):=hj
 rcases (hI.hold _ (List.mem_of_getElem? hj')).1 with ⟨rfl,A,hv⟩|⟨b,cap,spare,hv,hnc,hcm,hsp,⟨_,cs,h4,h5,h6⟩⟩
 · simp at hi
 ·
  rw [bw] at hv
  injection hv with e1 e2 e3
  injection e1 with e1
  subst e1
  have Fp:=BN hi
  have hrl:=hl row (List.mem_of_getElem? hi)
  have hfl:=Cw hl
  have hle:(i+1)*sz≤rows.length*sz:=Nat.mul_le_mul_right sz Fp
  rw [Nat.add_mul] at hle
  have h7:HL M w row ((cs.drop (i*sz)).take sz):=by
   have h8:=(h5.drop (i*sz)).take sz
   have e4:((rows.flatten++spare.map is).drop (i*sz)).take sz=row:=by
    refine List.ext_getElem? fun j=> ?_
    rw [List.getElem?_take]
    split
    ·
     rename_i hj
     rw [List.getElem?_drop,List.getElem?_append_left (by rw [hfl];omega),HY hl hi hj]
    · rw [List.getElem?_eq_none AA]
   rwa [e4] at h8
  have hl':((cs.drop (i*sz)).take sz).length=sz:=by rw [h7.length,hrl]
  have hrun:(loadCells ((⟨b,0,none⟩:Addr).add (i*sz)) sz).run P w= .ok ((cs.drop (i*sz)).take sz).toArray w:=by
   have:=run_loadCells_list (P:=P) w ((⟨b,0,none⟩:Addr).add (i*sz)) ((cs.drop (i*sz)).take sz) (fun k u hk=>by
    rw [add_add,Fe]
    rw [List.getElem?_take] at hk
    split at hk
    · rw [List.getElem?_drop] at hk;simp [World.cell?,h4,hk]
    · cases hk)
   rwa [hl'] at this
  have En:(execOp a.eval o).run P w= .ok (.value (.agg ((cs.drop (i*sz)).take sz).toArray)) w:=by simp [execOp,ho,h1,Instr.loadAt,Instr.sureAddr,loadVar,GL ht,Cn hz,hrun]
  rw [En]
  exact ⟨⟨_,rfl,fun c hc=>h6 c (List.mem_of_mem_drop (List.mem_of_mem_take hc)),h7⟩,Below.refl _ _⟩
theorem W4 {sz:Nat}:∀{rows:List (List Pr)} {i:Nat} {row:List Pr} {o:Nat} {qs S:List Pr},(∀r∈rows,r.length=sz)→rows[i]? =some row→o+qs.length≤sz→
  (rows.flatten++S).take (i*sz+o)++qs++(rows.flatten++S).drop (i*sz+o+qs.length)=(rows.set i (row.take o++qs++row.drop (o+qs.length))).flatten++S
 |[],_,_,_,_,_,_,h,_=>by simp at h
 |a::l,0,row,o,qs,S,hl,h,ho=>by
  simp at h;subst h
  have h1:=hl a AV
  rw [List.set_cons_zero,List.flatten_cons,List.flatten_cons,Nat.zero_mul,Nat.zero_add,List.append_assoc a,List.take_append_of_le_length AA,List.drop_append_of_le_length AA]
  simp
 |a::l,i+1,row,o,qs,S,hl,h,ho=>by
  have h1:=hl a AV
  have ih:=W4 (S:=S) (fun r hr=>hl r (List.mem_cons_of_mem _ hr)) (i:=i) (row:=row) (o:=o) (qs:=qs) Du ho
  rw [List.set_cons_succ, List.flatten_cons, List.flatten_cons, List.append_assoc a, List.append_assoc a, ← ih, List.take_append, List.drop_append, List.take_of_length_le (by rw [h1, Nat.succ_mul]; omega), List.drop_of_length_le (by rw [h1, Nat.succ_mul]; omega),
   show (i+1)*sz+o-a.length=i*sz+o by rw [h1,Nat.succ_mul];omega,show (i+1)*sz+o+qs.length-a.length=i*sz+o+qs.length by rw [h1,Nat.succ_mul];omega]
  simp
theorem G9 {t:TypeId} {x y:Operand} {sz j i q m:Nat} {T:TypeId} {rows rows':List (List Pr)} {row qs:List Pr} {v:Value} (hg:o.guard=none) (ho:o.op= .store t x y) (hx:VL E x (elp sz v i q)) (hy:VL E y (DK qs)) (hz:A8 P t=some m) (hm:qs.length=m)
  (hl:∀r∈rows,r.length=sz) (hi:rows[i]? =some row) (hq:q+m≤sz) (hps:rows.set i (row.take q++qs++row.drop (q+m))=rows'):DC P M0 w0 S n j (SR.c (Bs T sz rows v)) (SR.c (Bs T sz rows' v)) o E any:=by
 refine ⟨hg,fun M w a rs hsz he hI hj=> ?_⟩
 obtain ⟨a0,m0,c0,bw,h1⟩:=hx.ev he (show x∈o.op.operands.toList by simp [ho,Op.operands])
 obtain ⟨h2,h3⟩:=hy.ev he (show y∈o.op.operands.toList by simp [ho,Op.operands])
 have hj':rs[j]? =some (Bs T sz rows v):=hj
 have hjl:=BN hj'
 rcases (hI.hold _ (List.mem_of_getElem? hj')).1 with ⟨rfl,A,hv⟩|⟨b,cap,spare,hv,hnc,hcm,hsp,fN⟩
 · simp at hi
 ·
  subst hv
  injection bw with e1 e2 e3
  injection e1 with e1
  subst e1
  have hC:=hI.CU (r':=AE true b T (rows.flatten++spare.map is)) hj' rfl rfl fN
  have hjC:(rs.set j (AE true b T (rows.flatten++spare.map is)))[j]? =some (AE true b T (rows.flatten++spare.map is)):=List.getElem?_set_self hjl
  obtain ⟨_,cs,h4,h5,h6⟩:=fN
  have h5l:=h5.length
  have h2l:=h2.length
  have Fp:=BN hi
  have hfl:=Cw hl
  rw [List.length_append,hfl,List.length_map] at h5l
  have hle:(i+1)*sz≤rows.length*sz:=Nat.mul_le_mul_right sz Fp
  rw [Nat.succ_mul] at hle
  have hcells:(a.eval y).cells.size=m:=by rw [←hm,←h2l];simp
  have hrun:(storeCells ((⟨b,0,none⟩:Addr).add (i*sz+q)) (a.eval y).cells.toList 0).run P w= .ok () (w.setRow b (cs.take (i*sz+q)++(a.eval y).cells.toList++cs.drop (i*sz+q+m)).toArray):=by
   have:=run_storeCells_at (P:=P) b (i*sz+q) T (a.eval y).cells.toList 0 cs.toArray w h4 CE h3
   rw [Fe,Nat.zero_add]
   simpa [hcells] using this
  have En:(execOp a.eval o).run P w= .ok .skip (w.setRow b (cs.take (i*sz+q)++(a.eval y).cells.toList++cs.drop (i*sz+q+m)).toArray):=by
   simp [execOp,ho,h1,Instr.storeAt,Instr.sureAddr,storeVar,Cn hz,hcells,hrun]
  rw [En]
  have hfs:=W4 (S:=spare.map is) hl hi (o:=q) (qs:=qs) AA
  rw [hm,hps] at hfs
  obtain ⟨h7, h8⟩ := Az.write (qs := rows'.flatten ++ spare.map is) (cs := cs.take (i * sz + q) ++ (a.eval y).cells.toList ++ cs.drop (i * sz + q + m)) hC hjC (by rw [← hfs]; exact (((h5.take (i * sz + q)).app h2)).app (h5.drop (i * sz + q + m)))
   (fun c hc=>by
    simp only [List.mem_append] at hc
    rcases hc with (hc|hc)|hc
    · exact MT
    · exact h3 c hc
    · exact h6 c (List.mem_of_mem_drop hc))
  rw [List.set_set] at h7
  refine ⟨M,trivial,h8,?_⟩
  have hlen:rows'.length=rows.length:=by rw [←hps,List.length_set]
  have h9:=h7.CU (r':=Bs T sz rows' (.slice (some ⟨b,0,none⟩) rows.length (cap+1))) (List.getElem?_set_self hjl) rfl rfl (.inr ⟨b,cap,spare,by rw [hlen],by rw [hlen];exact hnc,hcm,by rw [hlen];exact hsp,(h7.hold _ (List.mem_of_getElem? (List.getElem?_set_self hjl))).1⟩)
  rw [List.set_set] at h9
  exact h9
theorem Az.lO:∀{l:List Ap} {M:Av} {w:World},Az M0 w0 S (l++rs) M w→Az M0 w0 S rs M w
 |[],_,_,h=>h
 |_::l,_,_,h=>Az.lO (l:=l) h.JK
end
section
variable {P:Program} {L:Lg P} {E:Env} {I:Ce} {o:Oper}
theorem lP {f:FuncId} {cx:Operand} {xs:Array Operand} {ts:Array TypeId} {ps caps:List Pr} {res:Pr} (ho:o.op= .call { callee:= .value cx,args:=xs,argTypes:=ts }) (hc:VL E cx (fn (.func f) caps)) (hf:BC P f (ps++caps) res) (hv:Gz E xs.toList ps):Ae P I o E res:=by
 intro M w a he hI
 have h1:=Gz.FZ (o:=o) he (xs:=xs.toList) (fun x hx=>by simp [ho,Op.operands,Call.operands];exact .inr FX) hv
 obtain ⟨cs,h2,h3⟩:=hc.ev he DH
 have hrun:(execOp a.eval o).run P w= .ok (.enter f ((xs.toList.map a.eval).toArray++cs.toArray)) w:=by
  simp [execOp,ho,resolve,Deferred.ofValue,h2,invoke,DB hf.1,GU xs]
 rw [hrun]
 have h4:=hf.2 M w _ (I.bd _ _ hI) (h1.app h3)
 exact ⟨Below.refl _ _,by simpa using h4⟩
section
variable {n:Fm} {fz:Nat} {M0:Av} {w0:World} {S:Nat→Prop}
end
end
def allI (p:Nat→Bool) (n:Nat):Bool:=(List.range n).all p
theorem B7 {p:Nat→Bool} {n:Nat}:allI p n=true↔∀j,j<n→p j=true:=by unfold allI;simp
theorem lQ {p:Nat→Bool} {n:Nat} (h:∀j,j<n→p j=true):allI p n=true:=B7.2 h
theorem Qt {p:Nat→Bool} {n k:Nat} (hk:k<n) (h:p k=false):allI p n=false:=by
 rw [Bool.eq_false_iff];intro h';rw [B7.1 h' k hk] at h;cases h
theorem D9 {p:Nat→Bool} {k:Nat} (h:∀j,j<k→p j=true) (hk:p k=true):∀j,j<k+1→p j=true:=by
 intro j hj
 by_cases e:j=k
 · subst e;exact hk
 · exact h j AA
end Cp
