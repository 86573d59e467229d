/-
  Part 2 of the texts that prove this claim, merged.
-/
import Derived.ChangeArms
import Derived.OpenShut
import Derived.ChangeSame
import Derived.RowKit
import Derived.ProofKit
import Derived.Laws.MakeOwn
import Derived.Test.YthommhphcagokaaGreatDoorProg
import Derived.KernelRfl
import Derived.Lib.ConvBytes
import Derived.Lib.Bytealg
import Derived.Laws.StructEq
import Derived.Laws.Externs
import Derived.Lib.AtoiErrMem
import Derived.Laws.IdiomRangeMap
import Derived.Sort.LotA
import Derived.Sort.LotB
import Derived.Sort.LotC
import Derived.Lib.AppendZeros
import Derived.Lib.AppendZerosOnto
import Derived.Test.YthommhphcagokaaGreatDoorPrJP1
set_option linter.all false
set_option maxRecDepth 40000
set_option maxHeartbeats 16000000
namespace Cp
open Go Go.RowKit Go.Great Go.ChangeShapes Go.WideShapes
variable{P:Program}{v:Value}{w:World}
def kj:Av:=fun _ _=>False
theorem eK(w:World):Bd kj w:=fun _ _ h=>h.elim
def I_(P:Program)(t:TypeId){α:Type}(ok:α->Prop)(f:α->List Pr):Prop:=
 ∀(H:Type) (enc:TypeId×Value->H) (w:World) (fuel:Nat) (cs:List Value) (x:DataW H×List MemPlace),DataW.trod enc P w 0 (fun _=>true) true fuel t cs=some x->∃a,ok a/\HL kj w (f a) cs/\∀c∈cs,c.oneCell'=true
theorem I_.map{t:TypeId}{α β:Type}{ok:α->Prop}{f:α->List Pr}{ok':β->Prop}{f':β->List Pr}(h:I_ P t ok f)(g:α->β)(h1:∀a,ok a->ok' (g a))(h2:∀a,f' (g a)=f a):I_ P t ok' f':=by
 intro H enc w fuel cs x hx;obtain⟨a,h3,h4,h5⟩:=h H enc w fuel cs x hx;exact⟨g a,h1 a h3,by rw[h2];exact h4,h5⟩
theorem Jy{t:TypeId}{k:IntKind}(ht:P.underlying t=some (.int k)):I_ P t (fun n:Int=>(Lit.int k n).wf=true) (fun n=>[is (.int k n)]):=by
 intro H enc w fuel cs x hx;obtain⟨n,rfl,_,hw⟩:=DataW.trod_int ht hx;exact⟨n,hw,⟨rfl,trivial⟩,by simp[Value.oneCell']⟩
theorem HL.len{M:Av}{w:World}:∀{ps:List Pr} {vs:List Value},HL M w ps vs->ps.length=vs.length
 |[],[],_=>rfl
 |p::ps,v::vs,h=>by simp[HL.len h.2]
 |[],_::_,h=>h.elim
 |_::_,[],h=>h.elim
theorem HL.nth{M:Av}{w:World}:∀{ps:List Pr} {vs:List Value} (j:Nat) (p:Pr),HL M w ps vs->ps[j]? =some p->∃v,vs[j]? =some v/\p.h M w v
 |p::ps,v::vs,0,q,h,hj=>by simp at hj;subst hj;exact⟨v,rfl,h.1⟩
 |p::ps,v::vs,j+1,q,h,hj=>by simpa using HL.nth j q h.2 Et
 |[],[],_,_,_,hj=>by simp at hj
 |[],_::_,_,_,h,_=>h.elim
 |_::_,[],_,_,h,_=>h.elim
theorem Ln{H:Type}{enc:TypeId×Value->H}{P:Program}{w:World}{e:TypeId}{α:Type}{ok:α->Prop}{f:α->List Pr}(he:I_ P e ok f){sz:Nat}(hc:P.cellsOf e=sz){a:Addr}{m:Nat}:
  ∀(len:Nat),(∀i,i<len->∃y,(w.cells? 0 (a.add (i*sz)) sz).bind (DataW.trod enc P w 0 (fun _=>true) true m e)=some y)->
   ∃l:List α,l.length=len/\(∀z∈l,ok z)/\∀(i:Nat) z,l[i]? =some z->(f z).length=sz/\Row kj w a (i*sz) (f z)
 |0,_=>⟨[],rfl,by simp,by simp⟩
 |len+1,h=>by
  obtain⟨l,h1,h2,h3⟩:=Ln he hc len (fun i hi=>h i AA);obtain⟨y,hy⟩:=h len AA;obtain⟨cs,hcs,hy⟩:=Option.bind_eq_some_iff.1 hy;obtain⟨z,hz,hl,h1c⟩:=he H enc w m cs y hy;obtain⟨_,hlen,hat⟩:=World.cells?_some hcs;refine⟨l++[z],by simp[h1],?_,fun i u hu=>?_⟩
  .
   intro u hu;rcases List.mem_append.1 hu with hu|hu
   .exact h2 u hu
   .rw[List.mem_singleton.1 hu];exact hz
  .
   rcases Nat.lt_trichotomy i len with hi|hi|hi
   .
    rw[List.getElem?_append_left AA]at hu;exact h3 i u hu
   .
    subst hi;rw[List.getElem?_append_right AA,h1]at hu;simp at hu;subst hu;have hfl:(f z).length=sz:=by rw[hl.len,hlen]
    refine⟨hfl,fun j p hp=>?_⟩;obtain⟨v,hv,Vv⟩:=hl.nth j p hp
    have hj:j<sz:=by
     rcases Nat.lt_or_ge j (f z).length with h'|h'
     .omega
     .rw[List.getElem?_eq_none h']at hp;cases hp
    refine⟨v,?_,fun hf=>hf,h1c v (List.mem_of_getElem? hv),Vv⟩;rw[←hv,←hat j hj];rw[add_add]
   .rw[List.getElem?_eq_none (by simp[h1];omega)]at hu;cases hu
theorem Pb{t e:TypeId}{α:Type}{ok:α->Prop}{f:α->List Pr}{sz:Nat}(ht:P.underlying t=some (.slice e))(hc:P.cellsOf e=sz)(he:I_ P e ok f):
  I_ P t (fun l:List α=>(∀z∈l,ok z)/\l.length<=maxLen) (fun l=>[slice sz (l.map f)]):=by
 intro H enc w fuel cs x hx;rcases DataW.trod_slice ht hx with⟨rfl,_⟩|⟨a,len,cap,elems,rest,n,rfl,rfl,_,_,hl,hm,hel,hat,_⟩
 .exact⟨[],⟨by simp,by simp⟩,⟨⟨none,0,rfl,by simp,by simp,fun _=>rfl,by simp⟩,trivial⟩,by simp[Value.oneCell']⟩
 .
  obtain⟨l,h1,h2,h3⟩:=Ln (H:=H) (enc:=enc) (w:=w) (a:=a) (m:=n) he hc len (fun i hi=>by
   have:=hat i hi;rw[hc]at this;rw[this,List.getElem?_eq_getElem AA]
   exact⟨_,rfl⟩)
  refine⟨l,⟨h2,by omega⟩,⟨⟨some a,cap,by simp[h1],by simp;omega,hm,by simp,fun i row hr=>?_⟩,trivial⟩,by simp[Value.oneCell']⟩;rw[List.getElem?_map]at hr;cases hz:l[i]? with
  |none=>rw[hz]at hr;cases hr
  |some z=>
   rw[hz]at hr;simp at hr;subst hr;obtain⟨h4,h5⟩:=h3 i z hz;exact⟨h4,a,rfl,h5⟩
theorem OI{H:Type}{enc:TypeId×Value->H}{t:TypeId}{α:Type}{ok:α->Prop}{p:α->Pr}(ho:I_ P t ok (fun a=>[p a])){d:DataW H}{ps:List MemPlace}(h:DataW.Trod enc P w 0 (fun _=>true) true t v d ps)(hv:v.cells= #[v]):
  ∃a,ok a/\(p a).h kj w v:=by
 obtain⟨fuel,hf⟩:=h;obtain⟨a,h1,h2,_⟩:=ho _ _ _ _ _ _ hf;rw[hv]at h2;exact⟨a,h1,h2.1⟩
theorem IF{H:Type}{enc:TypeId×Value->H}{P:Program}(hl:laidOutB P=true){W W':World}(hb:Below W.heap.size W W'):
  ∀{ts:List TypeId} {vs:List Value} {ds:List (DataW H)} {ps:List MemPlace},ts.all (fun t=>P.readableRec t&&decide (t<P.types.size))=true->DataW.TrodAll enc P W 0 (fun _=>true) true ts vs ds ps->(∀x∈ps,x.block<W.heap.size)->
   DataW.TrodAll enc P W' 0 (fun b=>decide (b<W.heap.size)) true ts vs ds ps
 |[],vs,ds,ps,_,h,_=>by
  obtain⟨rfl,rfl,rfl⟩:=trodAll_nil h;rfl
 |t::ts,vs,ds,ps,hr,h,hlt=>by
  obtain⟨v,vs',d,ds',p,q,rfl,rfl,rfl,h1,h2⟩:=trodAll_cons h;simp only[List.all_cons,Bool.and_eq_true,decide_eq_true_eq]at hr;exact⟨p,q,Below.trod hl hr.1.1 hr.1.2 h1 hb (fun x hx=>hlt x (List.mem_append_left _ hx)),IF hl hb (by simpa using hr.2) h2 (fun x hx=>hlt x (List.mem_append_right _ hx)),rfl⟩
theorem WE{H:Type}{enc:TypeId×Value->H}{fn:Func}{s:ChangeSpec}{W W':World}{args:Array Value}{ds gs:List (DataW H)}{before p:List MemPlace}{tb:TypeId}(hl:laidOutB P=true)(hr:fn.params.toList.all (fun t=>P.readableRec t&&decide (t<P.types.size))=true)(hres:fn.resultTypes= #[tb])(hb:P.underlying tb=some .bool)(hs:s.vars=[])(hA:DataW.TrodAll enc P W 0 (fun _=>true) true fn.params.toList args.toList ds p)(hp:before=p)(hW:DataW.Whole enc P fn.params.toList s.vars false W args.toList ds gs before)(hf:s.fn H (ds++gs)={ results:=[.lit (.bool true)],args:=ds })(WG:Below W.heap.size W W'):s.post enc P fn false true false false W args (.bool true) W':=by
 subst hp;refine⟨ds,gs,before,[],before,[],hW,?_,?_,?_,WG.frame _,fun h=>by cases h⟩
 .rw[hf,hres];exact trodAll_mk1 (shut_bool hb _)
 .rw[hf];exact IF hl WG hr hA (fun x hx=>by simpa using hW.lt x hx)
 .rw[hf,hs];rfl
end Cp
namespace Cp
open Go Go.RowKit Go.Great
variable{a:Act}{ops:Array Oper}{new:Bool}{l:List Int}{ps qs:List Pr}{j:Nat}{o:Oper}{x:Operand}{p:Pr}{T:TypeId}{v:Value}{w:World}
section
variable{P:Program}{L:Lg P}{n:Fm}{fz:Nat}{E:Env}{I:B3}{Q:Exit->Act->World->Prop}
theorem Tr.GA{α0:Type}(K:Env)(hK:CE E K)(F:α0->Env)(Ii:α0->B3)(C:α0->Prop)(μ:α0->Nat){c:Code}(Gb:α0)  (h0:C Gb)(hs:CE E (F Gb))(hI:∀M w,I.h M w->(Ii Gb).h M w)
  (round:∀x0,C x0->Tr L n (F x0++K) (Ii x0) c (Exit.then (fun a w=>∃C0,(C C0/\μ C0<μ x0)/\St n (F C0++K) (Ii C0) a w) Q)):Tr L n E I (.loop c) Q:=
 Tr.I6 K hK (fun y:α0=>F y) (fun y=>Ii y) (fun y=>C y) (fun y=>μ y) Gb h0 hs hI fun y hy=>
  Tr.post (round y hy) fun e a w h=>by
   cases e<;>first|exact h|(obtain⟨C0,h1,h2⟩:=h;exact⟨C0,h1,h2⟩)
theorem Fin.Gc{α0:Type}{E1:α0->Env}{I1:α0->B3}{C:α0->Prop}(x0:α0)  (hC:C x0)(hs:CE E (E1 x0))(hI:∀M w,I.h M w->(I1 x0).h M w):
  Fin n E I (Exit.then (fun a w=>∃C0,C C0/\St n (E1 C0) (I1 C0) a w) Q) .normal:=fun _ _ hst=>⟨x0,hC,hst.sub hs hI⟩
theorem Tr.Lp{α0:Type}(K:Env)(hK:CE E K)(F:α0->Value->Env)(Ii:α0->Value->B3)(C:α0->Prop)(μ:α0->Nat){c:Code}(Gb:α0)(RH:Value)(h0:C Gb)(hs:CE E (F Gb RH))(hI:∀M w,I.h M w->(Ii Gb RH).h M w)
  (round:∀x0 v0,C x0->Tr L n (F x0 v0++K) (Ii x0 v0) c (Exit.then (fun a w=>∃C0 IW,(C C0/\μ C0<μ x0)/\St n (F C0 IW++K) (Ii C0 IW) a w) Q)):Tr L n E I (.loop c) Q:=
 Tr.I6 K hK (fun y:α0×Value=>F y.1 y.2) (fun y=>Ii y.1 y.2) (fun y=>C y.1) (fun y=>μ y.1) (Gb,RH) h0 hs hI fun y hy=>
  Tr.post (round y.1 y.2 hy) fun e a w h=>by
   cases e<;>first|exact h|(obtain⟨C0,IW,h1,h2⟩:=h;exact⟨(C0,IW),h1,h2⟩)
theorem Fin.OJ{α0:Type}{E1:α0->Value->Env}{I1:α0->Value->B3}{C:α0->Prop}(x0:α0)(v0:Value)(hC:C x0)(hs:CE E (E1 x0 v0))(hI:∀M w,I.h M w->(I1 x0 v0).h M w):
  Fin n E I (Exit.then (fun a w=>∃C0 IW,C C0/\St n (E1 C0 IW) (I1 C0 IW) a w) Q) .normal:=fun _ _ hst=>⟨x0,v0,hC,hst.sub hs hI⟩
theorem Tr.Lq{α0 α1:Type}(K:Env)(hK:CE E K)(F:α0->α1->Env)(Ii:α0->α1->B3)(C:α0->α1->Prop)(μ:α0->α1->Nat){c:Code}(Gb:α0)(JA:α1)  (h0:C Gb JA)(hs:CE E (F Gb JA))(hI:∀M w,I.h M w->(Ii Gb JA).h M w)
  (round:∀x0 x1,C x0 x1->Tr L n (F x0 x1++K) (Ii x0 x1) c (Exit.then (fun a w=>∃C0 Dj,(C C0 Dj/\μ C0 Dj<μ x0 x1)/\St n (F C0 Dj++K) (Ii C0 Dj) a w) Q)):Tr L n E I (.loop c) Q:=
 Tr.I6 K hK (fun y:α0×α1=>F y.1 y.2) (fun y=>Ii y.1 y.2) (fun y=>C y.1 y.2) (fun y=>μ y.1 y.2) (Gb,JA) h0 hs hI fun y hy=>
  Tr.post (round y.1 y.2 hy) fun e a w h=>by
   cases e<;>first|exact h|(obtain⟨C0,Dj,h1,h2⟩:=h;exact⟨(C0,Dj),h1,h2⟩)
theorem Fin.Hr{α0 α1:Type}{E1:α0->α1->Env}{I1:α0->α1->B3}{C:α0->α1->Prop}(x0:α0)(x1:α1)  (hC:C x0 x1)(hs:CE E (E1 x0 x1))(hI:∀M w,I.h M w->(I1 x0 x1).h M w):
  Fin n E I (Exit.then (fun a w=>∃C0 Dj,C C0 Dj/\St n (E1 C0 Dj) (I1 C0 Dj) a w) Q) .normal:=fun _ _ hst=>⟨x0,x1,hC,hst.sub hs hI⟩
theorem Tr.JB{α0 α1:Type}(K:Env)(hK:CE E K)(F:α0->α1->Value->Env)(Ii:α0->α1->Value->B3)(C:α0->α1->Prop)(μ:α0->α1->Nat){c:Code}(Gb:α0)(JA:α1)(RH:Value)(h0:C Gb JA)(hs:CE E (F Gb JA RH))(hI:∀M w,I.h M w->(Ii Gb JA RH).h M w)
  (round:∀x0 x1 v0,C x0 x1->Tr L n (F x0 x1 v0++K) (Ii x0 x1 v0) c (Exit.then (fun a w=>∃C0 Dj IW,(C C0 Dj/\μ C0 Dj<μ x0 x1)/\St n (F C0 Dj IW++K) (Ii C0 Dj IW) a w) Q)):Tr L n E I (.loop c) Q:=
 Tr.I6 K hK (fun y:α0×α1×Value=>F y.1 y.2.1 y.2.2) (fun y=>Ii y.1 y.2.1 y.2.2) (fun y=>C y.1 y.2.1) (fun y=>μ y.1 y.2.1) (Gb,JA,RH) h0 hs hI fun y hy=>
  Tr.post (round y.1 y.2.1 y.2.2 hy) fun e a w h=>by
   cases e<;>first|exact h|(obtain⟨C0,Dj,IW,h1,h2⟩:=h;exact⟨(C0,Dj,IW),h1,h2⟩)
theorem Fin.K6{α0 α1:Type}{E1:α0->α1->Value->Env}{I1:α0->α1->Value->B3}{C:α0->α1->Prop}(x0:α0)(x1:α1)(v0:Value)(hC:C x0 x1)(hs:CE E (E1 x0 x1 v0))(hI:∀M w,I.h M w->(I1 x0 x1 v0).h M w):
  Fin n E I (Exit.then (fun a w=>∃C0 Dj IW,C C0 Dj/\St n (E1 C0 Dj IW) (I1 C0 Dj IW) a w) Q) .normal:=fun _ _ hst=>⟨x0,x1,v0,hC,hst.sub hs hI⟩
theorem Tr.WH{α0 α1 α2:Type}(K:Env)(hK:CE E K)(F:α0->α1->α2->Env)(Ii:α0->α1->α2->B3)(C:α0->α1->α2->Prop)(μ:α0->α1->α2->Nat){c:Code}(Gb:α0)(JA:α1)(OK:α2)  (h0:C Gb JA OK)(hs:CE E (F Gb JA OK))(hI:∀M w,I.h M w->(Ii Gb JA OK).h M w)
  (round:∀x0 x1 x2,C x0 x1 x2->Tr L n (F x0 x1 x2++K) (Ii x0 x1 x2) c (Exit.then (fun a w=>∃C0 Dj Fx,(C C0 Dj Fx/\μ C0 Dj Fx<μ x0 x1 x2)/\St n (F C0 Dj Fx++K) (Ii C0 Dj Fx) a w) Q)):Tr L n E I (.loop c) Q:=
 Tr.I6 K hK (fun y:α0×α1×α2=>F y.1 y.2.1 y.2.2) (fun y=>Ii y.1 y.2.1 y.2.2) (fun y=>C y.1 y.2.1 y.2.2) (fun y=>μ y.1 y.2.1 y.2.2) (Gb,JA,OK) h0 hs hI fun y hy=>
  Tr.post (round y.1 y.2.1 y.2.2 hy) fun e a w h=>by
   cases e<;>first|exact h|(obtain⟨C0,Dj,Fx,h1,h2⟩:=h;exact⟨(C0,Dj,Fx),h1,h2⟩)
theorem Fin.E0{α0 α1 α2:Type}{E1:α0->α1->α2->Env}{I1:α0->α1->α2->B3}{C:α0->α1->α2->Prop}(x0:α0)(x1:α1)(x2:α2)  (hC:C x0 x1 x2)(hs:CE E (E1 x0 x1 x2))(hI:∀M w,I.h M w->(I1 x0 x1 x2).h M w):
  Fin n E I (Exit.then (fun a w=>∃C0 Dj Fx,C C0 Dj Fx/\St n (E1 C0 Dj Fx) (I1 C0 Dj Fx) a w) Q) .normal:=fun _ _ hst=>⟨x0,x1,x2,hC,hst.sub hs hI⟩
theorem Tr.Dl{α0 α1 α2:Type}(K:Env)(hK:CE E K)(F:α0->α1->α2->Value->Env)(Ii:α0->α1->α2->Value->B3)(C:α0->α1->α2->Prop)(μ:α0->α1->α2->Nat){c:Code}(Gb:α0)(JA:α1)(OK:α2)(RH:Value)(h0:C Gb JA OK)(hs:CE E (F Gb JA OK RH))(hI:∀M w,I.h M w->(Ii Gb JA OK RH).h M w)
  (round:∀x0 x1 x2 v0,C x0 x1 x2->Tr L n (F x0 x1 x2 v0++K) (Ii x0 x1 x2 v0) c (Exit.then (fun a w=>∃C0 Dj Fx IW,(C C0 Dj Fx/\μ C0 Dj Fx<μ x0 x1 x2)/\St n (F C0 Dj Fx IW++K) (Ii C0 Dj Fx IW) a w) Q)):Tr L n E I (.loop c) Q:=
 Tr.I6 K hK (fun y:α0×α1×α2×Value=>F y.1 y.2.1 y.2.2.1 y.2.2.2) (fun y=>Ii y.1 y.2.1 y.2.2.1 y.2.2.2) (fun y=>C y.1 y.2.1 y.2.2.1) (fun y=>μ y.1 y.2.1 y.2.2.1) (Gb,JA,OK,RH) h0 hs hI fun y hy=>
  Tr.post (round y.1 y.2.1 y.2.2.1 y.2.2.2 hy) fun e a w h=>by
   cases e<;>first|exact h|(obtain⟨C0,Dj,Fx,IW,h1,h2⟩:=h;exact⟨(C0,Dj,Fx,IW),h1,h2⟩)
theorem Fin.CR{α0 α1 α2:Type}{E1:α0->α1->α2->Value->Env}{I1:α0->α1->α2->Value->B3}{C:α0->α1->α2->Prop}(x0:α0)(x1:α1)(x2:α2)(v0:Value)(hC:C x0 x1 x2)(hs:CE E (E1 x0 x1 x2 v0))(hI:∀M w,I.h M w->(I1 x0 x1 x2 v0).h M w):
  Fin n E I (Exit.then (fun a w=>∃C0 Dj Fx IW,C C0 Dj Fx/\St n (E1 C0 Dj Fx IW) (I1 C0 Dj Fx IW) a w) Q) .normal:=fun _ _ hst=>⟨x0,x1,x2,v0,hC,hst.sub hs hI⟩
theorem Tr.WI{α0 α1 α2 α3:Type}(K:Env)(hK:CE E K)(F:α0->α1->α2->α3->Env)(Ii:α0->α1->α2->α3->B3)(C:α0->α1->α2->α3->Prop)(μ:α0->α1->α2->α3->Nat){c:Code}(Gb:α0)(JA:α1)(OK:α2)(Y1:α3)  (h0:C Gb JA OK Y1)(hs:CE E (F Gb JA OK Y1))(hI:∀M w,I.h M w->(Ii Gb JA OK Y1).h M w)
  (round:∀x0 x1 x2 x3,C x0 x1 x2 x3->Tr L n (F x0 x1 x2 x3++K) (Ii x0 x1 x2 x3) c (Exit.then (fun a w=>∃C0 Dj Fx Mf,(C C0 Dj Fx Mf/\μ C0 Dj Fx Mf<μ x0 x1 x2 x3)/\St n (F C0 Dj Fx Mf++K) (Ii C0 Dj Fx Mf) a w) Q)):Tr L n E I (.loop c) Q:=
 Tr.I6 K hK (fun y:α0×α1×α2×α3=>F y.1 y.2.1 y.2.2.1 y.2.2.2) (fun y=>Ii y.1 y.2.1 y.2.2.1 y.2.2.2) (fun y=>C y.1 y.2.1 y.2.2.1 y.2.2.2) (fun y=>μ y.1 y.2.1 y.2.2.1 y.2.2.2) (Gb,JA,OK,Y1) h0 hs hI fun y hy=>
  Tr.post (round y.1 y.2.1 y.2.2.1 y.2.2.2 hy) fun e a w h=>by
   cases e<;>first|exact h|(obtain⟨C0,Dj,Fx,Mf,h1,h2⟩:=h;exact⟨(C0,Dj,Fx,Mf),h1,h2⟩)
theorem Fin.Y2{α0 α1 α2 α3:Type}{E1:α0->α1->α2->α3->Env}{I1:α0->α1->α2->α3->B3}{C:α0->α1->α2->α3->Prop}(x0:α0)(x1:α1)(x2:α2)(x3:α3)  (hC:C x0 x1 x2 x3)(hs:CE E (E1 x0 x1 x2 x3))(hI:∀M w,I.h M w->(I1 x0 x1 x2 x3).h M w):
  Fin n E I (Exit.then (fun a w=>∃C0 Dj Fx Mf,C C0 Dj Fx Mf/\St n (E1 C0 Dj Fx Mf) (I1 C0 Dj Fx Mf) a w) Q) .normal:=fun _ _ hst=>⟨x0,x1,x2,x3,hC,hst.sub hs hI⟩
theorem Tr.WJ{α0 α1 α2 α3:Type}(K:Env)(hK:CE E K)(F:α0->α1->α2->α3->Value->Env)(Ii:α0->α1->α2->α3->Value->B3)(C:α0->α1->α2->α3->Prop)(μ:α0->α1->α2->α3->Nat){c:Code}(Gb:α0)(JA:α1)(OK:α2)(Y1:α3)(RH:Value)(h0:C Gb JA OK Y1)(hs:CE E (F Gb JA OK Y1 RH))(hI:∀M w,I.h M w->(Ii Gb JA OK Y1 RH).h M w)
  (round:∀x0 x1 x2 x3 v0,C x0 x1 x2 x3->Tr L n (F x0 x1 x2 x3 v0++K) (Ii x0 x1 x2 x3 v0) c (Exit.then (fun a w=>∃C0 Dj Fx Mf IW,(C C0 Dj Fx Mf/\μ C0 Dj Fx Mf<μ x0 x1 x2 x3)/\St n (F C0 Dj Fx Mf IW++K) (Ii C0 Dj Fx Mf IW) a w) Q)):Tr L n E I (.loop c) Q:=
 Tr.I6 K hK (fun y:α0×α1×α2×α3×Value=>F y.1 y.2.1 y.2.2.1 y.2.2.2.1 y.2.2.2.2) (fun y=>Ii y.1 y.2.1 y.2.2.1 y.2.2.2.1 y.2.2.2.2) (fun y=>C y.1 y.2.1 y.2.2.1 y.2.2.2.1) (fun y=>μ y.1 y.2.1 y.2.2.1 y.2.2.2.1) (Gb,JA,OK,Y1,RH) h0 hs hI fun y hy=>
  Tr.post (round y.1 y.2.1 y.2.2.1 y.2.2.2.1 y.2.2.2.2 hy) fun e a w h=>by
   cases e<;>first|exact h|(obtain⟨C0,Dj,Fx,Mf,IW,h1,h2⟩:=h;exact⟨(C0,Dj,Fx,Mf,IW),h1,h2⟩)
theorem Fin.Y3{α0 α1 α2 α3:Type}{E1:α0->α1->α2->α3->Value->Env}{I1:α0->α1->α2->α3->Value->B3}{C:α0->α1->α2->α3->Prop}(x0:α0)(x1:α1)(x2:α2)(x3:α3)(v0:Value)(hC:C x0 x1 x2 x3)(hs:CE E (E1 x0 x1 x2 x3 v0))(hI:∀M w,I.h M w->(I1 x0 x1 x2 x3 v0).h M w):
  Fin n E I (Exit.then (fun a w=>∃C0 Dj Fx Mf IW,C C0 Dj Fx Mf/\St n (E1 C0 Dj Fx Mf IW) (I1 C0 Dj Fx Mf IW) a w) Q) .normal:=fun _ _ hst=>⟨x0,x1,x2,x3,v0,hC,hst.sub hs hI⟩
end
structure DS where
 l:List Int
 at_:Nat
 h:at_<=l.length
 h2:l.length<=1000000000
def DS.val(s:DS)(n:Int):Int:=match s.l[s.at_]? with|some x=>x % n|none=>0
def DS.Ai(s:DS):DS:=if h:s.at_<s.l.length then⟨s.l,s.at_+1,h,s.h2⟩else s
theorem DS.B8(s:DS){n:Int}(hn:1<=n):0<=s.val n/\s.val n<n:=by
 unfold DS.val
 split
 .exact⟨Int.emod_nonneg _ AA,Int.emod_lt_of_pos _ AA⟩
 .omega
theorem DS.Y4{s:DS}(h:s.l.length<=s.at_)(n:Int):s.val n=0:=by
 unfold DS.val;rw[List.getElem?_eq_none h]
theorem DS.Y5{s:DS}(h:s.l.length<=s.at_):s.Ai=s:=by
 unfold DS.Ai;rw[dif_neg AA]
theorem DS.eL{s:DS}{x:Int}(h:s.l[s.at_]? =some x)(n:Int):s.val n=x % n:=by
 unfold DS.val;rw[h]
theorem DS.eM{s:DS}(h:s.at_<s.l.length):s.Ai=⟨s.l,s.at_+1,h,s.h2⟩:=by
 unfold DS.Ai;rw[dif_pos h]
def Jz(s:DS):List Pr:=[slice 1 (s.l.map fun n=>[int n]),int ((s.at_:Nat):Int)]
def Pc(T:TypeId)(b:Nat)(s:DS):At:=AF true b T (Jz s)
def EW(T:TypeId)(b:Nat):At:=I9 true b T (fun _:DS=>True) Jz
def DS.of(s:DS)(l:List Int):Int:=(l[(s.val l.length).toNat]?).getD 0
theorem DS.DE(s:DS)(h:l≠[]):s.of l∈l:=by
 have h0:1<=(l.length:Int):=by
  have:=List.length_pos_iff.2 h;omega
 have:=s.B8 h0;unfold DS.of;rw[List.getElem?_eq_getElem AA];exact List.getElem_mem _
section
variable{P:Program}{L:Lg P}{n:Fm}{fz:Nat}{E:Env}{M0:Av}{w0:World}{S:Nat->Prop}{rs:List At}
theorem Tr.Gt{Q:Exit->Act->World->Prop}{c:Code}(i:Nat){b:Nat}(hi:rs[i]? =some (EW T b))(k:∀s,Tr L n E (Hp M0 w0 S (rs.set i (Pc T b s))) c Q):Tr L n E (Hp M0 w0 S rs) c Q:=
 Tr.kX i hi fun s _=>k s
theorem Fin.Gt{Q:Exit->Act->World->Prop}{e:Exit}(i:Nat){b:Nat}(hi:rs[i]? =some (EW T b))(k:∀s,Fin n E (Hp M0 w0 S (rs.set i (Pc T b s))) Q e):Fin n E (Hp M0 w0 S rs) Q e:=by
 rintro a w ⟨M,h1,h2,h3,h4⟩;have h4:A0 M0 w0 S rs M w:=h4;obtain⟨x,hx,hh⟩:=(h4.hold _ (List.mem_of_getElem? hi)).1;exact k x a w ⟨M,h1,h2,h3,h4.DG hi rfl rfl hh⟩
theorem Fin.CJ{Q:Exit->Act->World->Prop}{e:Exit}(i:Nat){b:Nat}(s:DS)(hi:rs[i]? =some (AF true b T ps))(hp:ps=Jz s)(k:Fin n E (Hp M0 w0 S (rs.set i (EW T b))) Q e):Fin n E (Hp M0 w0 S rs) Q e:=
 Fin.Jx i (fun _=>True) Jz s trivial hi hp k
theorem Tr.CJ{Q:Exit->Act->World->Prop}{c:Code}(i:Nat){b:Nat}(s:DS)(hi:rs[i]? =some (AF true b T ps))(hp:ps=Jz s)(k:Tr L n E (Hp M0 w0 S (rs.set i (EW T b))) c Q):Tr L n E (Hp M0 w0 S rs) c Q:=
 Tr.Jx i (fun _=>True) Jz s trivial hi hp k
theorem TO.YZ{l:List Oper}{Q:Exit->Act->World->Prop}(s j:Nat){f:Value->At}(g:Nat->At)(hs:E.lookup s=some (An v (Cp.ex fun b=>ptr b 0)))(hi:rs[j]? =some (f v))(hf:∀b,f (.pointer (some ⟨b,0,none⟩))=g b)(k:∀b,TO P n ops l ((s,ptr b 0)::E) (Hp M0 w0 S (rs.set j (g b))) Q):TO P n ops l E (Hp M0 w0 S rs) Q:=by
 intro k0 hl a w hst;obtain⟨M,h1,h2,he,h4⟩:=hst;obtain⟨h5,b,h6⟩:=he s _ hs;have hv:v= .pointer (some ⟨b,0,none⟩):=by rw[←h5];exact h6
 have hj:rs.set j (g b)=rs:=by
  have hjl:j<rs.length:=by rcases Nat.lt_or_ge j rs.length with h|h;exact h;rw[List.getElem?_eq_none h]at hi;cases hi
  rw[←hf b,←hv];rw[List.getElem?_eq_getElem hjl]at hi;simp at hi;rw[←hi,List.set_getElem_self]
 refine k b k0 hl a w ⟨M,h1,h2,?_,by rw[hj];exact h4⟩;intro t q hq;simp only[List.lookup]at hq
 by_cases ht:t=s
 .subst ht;simp at hq;subst hq;exact h6
 .exact Jo
def HC(r:ResultVar)(a:Act):Sem Value:=match r with| .tmp t=>pure (a.tmps.getD t undef)| .cell c t=>do loadVar t (←asAddr (a.tmps.getD c undef))
def AZ(P:Program)(E:Env)(rs:List At)(r:ResultVar)(p:Pr):Prop:=∀(M:Av) (w:World) (a:Act),Ee M w E a->(∀q∈rs,q.h M w)->∃v,(HC r a).run P w= .ok v w/\p.h M w v
theorem AZ.tmp{t:Tmp}{q:Pr}(h:E.lookup t=some q)(hl:Pr.le q p):AZ P E rs (.tmp t) p:=fun _ _ _ he _=>⟨_,rfl,hl _ _ _ (he _ _ h)⟩
theorem AZ.cell(i:Nat){c:Tmp}{t:TypeId}{b m:Nat}(h:E.lookup c=some (ptr b 0))(hi:rs[i]? =some (AF new b T ps))(ht:D5 P t=true)(hz:Ar P t=some m)(hm:ps.length=m)(hl:Pr.le (agg ps) p):AZ P E rs (.cell c t) p:=by
 intro M w a he hr;obtain⟨v,h1,h2⟩:=V9 ht hz hm (hr _ (List.mem_of_getElem? hi));refine⟨v,?_,hl _ _ _ h2⟩;have hc:a.tmps.getD c undef= .pointer (some ⟨b,0,none⟩):=he _ _ h;unfold HC;simp only[hc,asAddr]
 simpa[Sem.run_bind]using h1
theorem Gd(g:Func)(a:Act):results g a.tmps=(do let vs ←g.results.mapM (fun r=>HC r a);pure (if h:vs.size=1 then vs[0]else .tuple vs)):=by
 have:(fun r:ResultVar=>HC r a)=(fun| .tmp t=>pure (a.tmps.getD t undef)| .cell c t=>do loadVar t (←asAddr (a.tmps.getD c undef))):=by
  funext r;cases r<;>rfl
 rw[this];rfl
theorem results1{g:Func}{r:ResultVar}(hr:g.results= #[r])(h:(HC r a).run P w= .ok v w):(results g a.tmps).run P w= .ok v w:=by
 rw[Gd,hr];simp[Sem.run_bind,h]
theorem results2{g:Func}{r r':ResultVar}{v':Value}(hr:g.results= #[r,r'])(h:(HC r a).run P w= .ok v w)(h':(HC r' a).run P w= .ok v' w):(results g a.tmps).run P w= .ok (.tuple #[v,v']) w:=by
 rw[Gd,hr];simp[Sem.run_bind,h,h']
theorem results3{g:Func}{r r' r'':ResultVar}{v' v'':Value}(hr:g.results= #[r,r',r''])(h:(HC r a).run P w= .ok v w)(h':(HC r' a).run P w= .ok v' w)(h'':(HC r'' a).run P w= .ok v'' w):(results g a.tmps).run P w= .ok (.tuple #[v,v',v'']) w:=by
 rw[Gd,hr];simp[Sem.run_bind,h,h',h'']
theorem A0.OL{M:Av}{w:World}:∀{pre:List At},A0 M0 w0 S (pre++rs) M w->A0 M0 w0 S rs M w
 |[],h=>h
 |_::_,h=>A0.OL h.Gs
variable{g:Func}{M1:Av}{w1:World}
theorem Fin.Br{r:ResultVar}{q:Pr}(hr:g.results= #[r])(h:AZ P E rs r q)(hl:Pr.le q p):Fin ⟨fz,[]⟩ E (Hp M0 w0 Hj rs) (bodyPost P g (OB M0 w0 p)) .ret:=by
 rintro a w ⟨M,_,hd,he,hi⟩;obtain⟨v,hv,hp⟩:=h M w a he (fun q hq=>(hi.hold q hq).1);obtain⟨h1,h2⟩:=Cy.GV M0 w0 M w hi;exact⟨hd,v,results1 hr hv,_,rfl,p.st _ _ _ _ _ (Ext.less h1) (hl _ _ _ hp),h2⟩
theorem Fin.BU{r r':ResultVar}{q q':Pr}(hr:g.results= #[r,r'])(h:AZ P E rs r q)(h':AZ P E rs r' q')(hl:Pr.le (D8 [q,q']) p):Fin ⟨fz,[]⟩ E (Hp M0 w0 Hj rs) (bodyPost P g (OB M0 w0 p)) .ret:=by
 rintro a w ⟨M,_,hd,he,hi⟩;obtain⟨v,hv,hp⟩:=h M w a he (fun q hq=>(hi.hold q hq).1);obtain⟨v',eN,hp'⟩:=h' M w a he (fun q hq=>(hi.hold q hq).1);obtain⟨h1,h2⟩:=Cy.GV M0 w0 M w hi;exact⟨hd,_,results2 hr hv eN,_,rfl,p.st _ _ _ _ _ (Ext.less h1) (hl _ _ _ ⟨[_,_],rfl,hp,hp',trivial⟩),h2⟩
theorem Fin.Sg{r r' r'':ResultVar}{q q' q'':Pr}(hr:g.results= #[r,r',r''])(h:AZ P E rs r q)(h':AZ P E rs r' q')(h'':AZ P E rs r'' q'')(hl:Pr.le (D8 [q,q',q'']) p):Fin ⟨fz,[]⟩ E (Hp M0 w0 Hj rs) (bodyPost P g (OB M0 w0 p)) .ret:=by
 rintro a w ⟨M,_,hd,he,hi⟩;obtain⟨v,hv,hp⟩:=h M w a he (fun q hq=>(hi.hold q hq).1);obtain⟨v',eN,hp'⟩:=h' M w a he (fun q hq=>(hi.hold q hq).1);obtain⟨v'',ru,ry⟩:=h'' M w a he (fun q hq=>(hi.hold q hq).1);obtain⟨h1,h2⟩:=Cy.GV M0 w0 M w hi;exact⟨hd,_,results3 hr hv eN ru,_,rfl,p.st _ _ _ _ _ (Ext.less h1) (hl _ _ _ ⟨[_,_,_],rfl,hp,hp',ry,trivial⟩),h2⟩
theorem Fin.Ci(pre:List At){r:ResultVar}{R:At}{R':Value->At}{q:Pr}(hr:g.results= #[r])(h:AZ P E (pre++R::Ah M1 w1::rs) r q)(hl:Pr.le q p)(hR:∀M w v,q.h M w v->R' v=R):
  Fin ⟨fz,[]⟩ E (Hp M0 w0 S (pre++R::Ah M1 w1::rs)) (bodyPost P g (NA M0 w0 S rs M1 w1 p R')) .ret:=by
 rintro a w ⟨M,_,hd,he,hi⟩;obtain⟨v,hv,hp⟩:=h M w a he (fun q hq=>(hi.hold q hq).1);obtain⟨h1,h2⟩:=eD (A0.OL hi);exact⟨hd,v,results1 hr hv,_,M,rfl,hl _ _ _ hp,h1,by rw[hR _ _ _ hp];exact h2⟩
theorem Fin.Sh(pre:List At){r r':ResultVar}{R:At}{q q':Pr}(hr:g.results= #[r,r'])(h:AZ P E (pre++R::Ah M1 w1::rs) r q)(h':AZ P E (pre++R::Ah M1 w1::rs) r' q')(hl:Pr.le (D8 [q,q']) p):
  Fin ⟨fz,[]⟩ E (Hp M0 w0 S (pre++R::Ah M1 w1::rs)) (bodyPost P g (NA M0 w0 S rs M1 w1 p (fun _=>R))) .ret:=by
 rintro a w ⟨M,_,hd,he,hi⟩;obtain⟨v,hv,hp⟩:=h M w a he (fun q hq=>(hi.hold q hq).1);obtain⟨v',eN,hp'⟩:=h' M w a he (fun q hq=>(hi.hold q hq).1);obtain⟨h1,h2⟩:=eD (A0.OL hi);exact⟨hd,_,results2 hr hv eN,_,M,rfl,hl _ _ _ ⟨[_,_],rfl,hp,hp',trivial⟩,h1,h2⟩
theorem BN{α:Type}{p:α->Pr}{q:Pr}(x:α)(h:Pr.le q (p x)):Pr.le q (Cp.ex p):=fun M w v hv=>⟨x,h M w v hv⟩
theorem BS{φ:Prop}{q:Pr}(hφ:φ)(h:Pr.le q p):Pr.le q (fact φ p):=fun M w v hv=>⟨hφ,h M w v hv⟩
end
section
variable{P:Program}{L:Lg P}{n:Fm}{fz:Nat}{E:Env}{M0:Av}{w0:World}{S:Nat->Prop}{rs:List SR}{o:Oper}
theorem E9{t:TypeId}{q:Tmp}{b off:Nat}[One p](hg:o.guard=none)(hd:o.dst=none)(ho:o.op= .store t x (.tmp q))(hx:VL E x (ptr b off))(hy:E.lookup q=some p)(hz:Ar P t=some 1)(hl:off+1<=ps.length):DW P M0 w0 S n j (SR.c (AF new b T ps)) ⟨q,fun v=>AF new b T (ps.take off++[An v p]++ps.drop (off+1))⟩ o E any:=by
 refine⟨hg,fun M w a rs hsz he hI hj=>?_⟩;have h1:a.eval x= .pointer (some ⟨b,off,none⟩):=hx.ev he Ax;have hv:VL E (.tmp q) p:=⟨_,hy,Pr.le_refl _⟩;have hp:=hv.ev he (show(Operand.tmp q)∈o.op.operands.toList by simp[ho,Op.operands]);obtain⟨h2,h3⟩:=(VL.le hv (AH p)).ev he (show(Operand.tmp q)∈o.op.operands.toList by simp[ho,Op.operands]);obtain⟨⟨_,cs,h4,h5,h6⟩,_⟩:=hI.hold _ (List.mem_of_getElem? hj);have kM:=h5.length;have cL:=h2.length;have hone:(a.eval (.tmp q)).cells= #[a.eval (.tmp q)]:=(One.one (p:=p) M w _ hp).1;have h2':HL M w [An (a.eval (.tmp q)) p] (a.eval (.tmp q)).cells.toList:=by rw[hone];exact⟨⟨rfl,hp⟩,trivial⟩
 have hcells:(a.eval (.tmp q)).cells.size=1:=by rw[hone];rfl
 have hrun:(storeCells ⟨b,off,none⟩ (a.eval (.tmp q)).cells.toList 0).run P w= .ok () (w.setRow b (cs.take off++(a.eval (.tmp q)).cells.toList++cs.drop (off+1)).toArray):=by
  have:=run_storeCells_at (P:=P) b off T (a.eval (.tmp q)).cells.toList 0 cs.toArray w h4 (by simp[hcells];omega) h3
  simpa[hcells]using this
 have Di:(execOp a.eval o).run P w= .ok .skip (w.setRow b (cs.take off++(a.eval (.tmp q)).cells.toList++cs.drop (off+1)).toArray):=by
  simp[execOp,ho,h1,Instr.storeAt,Instr.sureAddr,storeVar,B_ hz,hcells,hrun]
 rw[Di]
 obtain⟨h7, h8⟩ := A0.write (qs := ps.take off ++ [An (a.eval (.tmp q)) p] ++ ps.drop (off + 1)) (cs := cs.take off ++ (a.eval (.tmp q)).cells.toList ++ cs.drop (off + 1)) hI hj ((((h5.take off).app h2')).app (h5.drop (off + 1)))
  (fun c hc=>by
   simp only[List.mem_append]at hc;rcases hc with(hc|hc)|hc
   .grind
   .exact h3 c hc
   .exact h6 c (List.mem_of_mem_drop hc))
 refine⟨M,trivial,h8,?_⟩;have hput:SR.at_ (a.put o.dst undef) ⟨q,fun v=>AF new b T (ps.take off++[An v p]++ps.drop (off+1))⟩=AF new b T (ps.take off++[An (a.eval (.tmp q)) p]++ps.drop (off+1)):=by rw[hd];rfl
 rw[hput];exact h7
theorem WK{s:Nat}{f:Value->At}(hR:rs[j]? =some ⟨s,f⟩)(a:Act):(rs.set j (SR.c (f (a.tmps.getD s undef)))).map (·.at_ a)=rs.map (·.at_ a):=by
 rw[List.map_set]
 apply List.ext_getElem?
 intro i;rw[List.getElem?_set]
 by_cases hij:j=i
 .
  subst hij;rw[if_pos rfl]
  split
  .rw[List.getElem?_map,hR];rfl
  .grind
 .rw[if_neg hij]
theorem CF.NF{Q:Exit->Act->World->Prop}(j i s:Nat){f g:Value->At}(hR:rs[j]? =some ⟨s,f⟩)(hR':rs[i]? =some ⟨s,g⟩)(hij:j≠i)(hs:E.lookup s=some p)(k:∀v,CF n M0 w0 S ((s,An v p)::E) ((rs.set j (SR.c (f v))).set i (SR.c (g v))) Q):CF n M0 w0 S E rs Q:=by
 rintro a w ⟨M,h1,h2,h3,h4⟩;refine k (a.tmps.getD s undef) a w ⟨M,h1,h2,?_,?_⟩
 .
  intro t q hq;simp only[List.lookup]at hq
  by_cases ht:t=s
  .exact Vk
  .rw[show(t==s)=false by simpa using ht]at hq;exact h3 t q hq
 .rw[WK (rs:=rs.set j (SR.c (f (a.tmps.getD s undef)))) (j:=i) (s:=s) (f:=g) (by rw[List.getElem?_set,if_neg hij];exact hR') a,WK hR a];exact h4
end
section
variable{P:Program}{L:Lg P}{n:Fm}{fz:Nat}{E:Env}{M0:Av}{w0:World}{S:Nat->Prop}{rs:List At}
theorem St.Fy(j:Nat){b:Nat}(hi:rs[j]? =some (AF new b T ps))(h:Fc ps qs)(hs:St n E (Hp M0 w0 S rs) a w):St n E (Hp M0 w0 S (rs.set j (AF new b T qs))) a w:=by
 obtain⟨M,h1,h2,h3,h4⟩:=hs;have h4:A0 M0 w0 S rs M w:=h4;obtain⟨h5,cs,h6,h7,h8⟩:=(h4.hold _ (List.mem_of_getElem? hi)).1;exact⟨M,h1,h2,h3,h4.DG hi rfl rfl ⟨h5,cs,h6,h.hl h7,h8⟩⟩
theorem Tr.Fy{Q:Exit->Act->World->Prop}{c:Code}(j:Nat){b:Nat}(qs:List Pr)(hi:rs[j]? =some (AF new b T ps))(h:Fc ps qs)(k:Tr L n E (Hp M0 w0 S (rs.set j (AF new b T qs))) c Q):Tr L n E (Hp M0 w0 S rs) c Q:=
 Tr.conv (fun _ _ hs=>hs.Fy j hi h) k
theorem Fin.Fy{Q:Exit->Act->World->Prop}{e:Exit}(j:Nat){b:Nat}(qs:List Pr)(hi:rs[j]? =some (AF new b T ps))(h:Fc ps qs)(k:Fin n E (Hp M0 w0 S (rs.set j (AF new b T qs))) Q e):Fin n E (Hp M0 w0 S rs) Q e:=
 Fin.conv (fun _ _ hs=>hs.Fy j hi h) k
end
section
variable{P:Program}{L:Lg P}{n:Fm}{fz:Nat}{E:Env}{M0:Av}{w0:World}{S:Nat->Prop}{rs:List At}
theorem Fe{I:B3}{t e:TypeId}{y:Operand}{k:IntKind}{i:Int}{len cap sz b off:Nat}(ho:o.op= .indexAddr t x y)(ht:P.underlying t=some (.slice e))(hz:Ar P e=some sz)(hx:VL E x (is (.slice (some ⟨b,off,none⟩) len cap)))(hy:VL E y (is (.int k i)))(h0:0<=i)(hl:i<len):Ac P I o E (ptr b (off+i.toNat*sz)):=
 Ac.same fun M w a he _=>by
  have h1:a.eval x=_:=hx.ev he Ax;have h5:a.eval y= .int k i:=hy.ev he Ax;refine⟨_,?_,rfl⟩;simp[execOp,ho,h1,h5,Instr.indexAt,asIntOf,run_underlying ht,B_ hz,h0,hl,FG]
theorem Tr.perm{Q:Exit->Act->World->Prop}{c:Code}{rs':List At}(hp:rs.Perm rs')(k:Tr L n E (Hp M0 w0 S rs') c Q):Tr L n E (Hp M0 w0 S rs) c Q:=
 Tr.conv (fun _ _ ⟨M,h1,h2,h3,h4⟩=>⟨M,h1,h2,h3,A0.perm hp h4⟩) k
theorem Fin.perm{Q:Exit->Act->World->Prop}{ex:Exit}{rs':List At}(hp:rs.Perm rs')(k:Fin n E (Hp M0 w0 S rs') Q ex):Fin n E (Hp M0 w0 S rs) Q ex:=
 Fin.conv (fun _ _ ⟨M,h1,h2,h3,h4⟩=>⟨M,h1,h2,h3,A0.perm hp h4⟩) k
end
end Cp
namespace Go.Proofs.YthommhphcagokaaGreatDoor
open Go Cp
theorem mixed:Tryz.prog.follows .mixedOrders=true:=by kernel_rfl
theorem sz1:Ar Tryz.prog 1=some 1:=by kernel_rfl
theorem z1:A_ Tryz.prog 1=some [.nilFunc]:=by kernel_rfl
theorem sz2:Ar Tryz.prog 2=some 1:=by kernel_rfl
theorem z2:A_ Tryz.prog 2=some [.int .i64 0]:=by kernel_rfl
theorem C_:Ar Tryz.prog 3=some 1:=by kernel_rfl
theorem DP:DN Tryz.prog 3=true:=by kernel_rfl
theorem Y6:Bz Tryz.prog 3=some 8:=by kernel_rfl
theorem zo3:([.int .i64 0]:List Value).all (·.oneCell')=true:=by kernel_rfl
theorem z3:A_ Tryz.prog 3=some [.int .i64 0]:=by kernel_rfl
theorem eO:DN Tryz.prog 4=true:=by kernel_rfl
theorem z4:A_ Tryz.prog 4=some [.bool false]:=by kernel_rfl
theorem D7:Ar Tryz.prog 5=some 1:=by kernel_rfl
theorem Y7:DN Tryz.prog 5=true:=by kernel_rfl
theorem Is:Bz Tryz.prog 5=some 1:=by kernel_rfl
theorem zo5:([.int .u8 0]:List Value).all (·.oneCell')=true:=by kernel_rfl
theorem z5:A_ Tryz.prog 5=some [.int .u8 0]:=by kernel_rfl
theorem z6:A_ Tryz.prog 6=some [.int .u8 0]:=by kernel_rfl
theorem G4:Ar Tryz.prog 9=some 1:=by kernel_rfl
theorem J0:DN Tryz.prog 9=true:=by kernel_rfl
theorem by9:Bz Tryz.prog 9=some 16:=by kernel_rfl
theorem zo9:([.string (ByteArray.mk #[])]:List Value).all (·.oneCell')=true:=by kernel_rfl
theorem z9:A_ Tryz.prog 9=some [.string (ByteArray.mk #[])]:=by kernel_rfl
theorem z12:A_ Tryz.prog 12=some [.int .u64 0]:=by kernel_rfl
theorem z13:A_ Tryz.prog 13=some [.string (ByteArray.mk #[]),.int .u64 0]:=by kernel_rfl
theorem z15:A_ Tryz.prog 15=some [.pointer none]:=by kernel_rfl
theorem z18:A_ Tryz.prog 18=some [.pointer none]:=by kernel_rfl
theorem z20:A_ Tryz.prog 20=some [.nilIface]:=by kernel_rfl
theorem Kl:Ar Tryz.prog 22=some 1:=by kernel_rfl
theorem Ls:DN Tryz.prog 22=true:=by kernel_rfl
theorem z22:A_ Tryz.prog 22=some [.slice none 0 0]:=by kernel_rfl
theorem z24:A_ Tryz.prog 24=some [.nilFunc]:=by kernel_rfl
theorem Y8:Ar Tryz.prog 28=some 1:=by kernel_rfl
theorem WL:DN Tryz.prog 28=true:=by kernel_rfl
theorem eP:Ar Tryz.prog 29=some 1:=by kernel_rfl
theorem Si:DN Tryz.prog 29=true:=by kernel_rfl
theorem Y9:Ar Tryz.prog 30=some 1:=by kernel_rfl
theorem WM:DN Tryz.prog 30=true:=by kernel_rfl
theorem z31:A_ Tryz.prog 31=some (List.replicate 3 (.slice none 0 0)):=by kernel_rfl
theorem Ge:Ar Tryz.prog 32=some 3:=by kernel_rfl
theorem HD:D5 Tryz.prog 32=true:=by kernel_rfl
theorem rz:∀ps,Tryz.prog.built 32 ps=Instr.fill (fun i=>(#[(0,1),(1,1),(2,1)]:Array (Nat×Nat))[i]?) ((List.replicate 3 (.slice none 0 0)):List Value).toArray ps:=by intro ps;kernel_rfl
theorem Lt:((List.replicate 3 (.slice none 0 0)):List Value).all (·.oneCell')=true:=by kernel_rfl
theorem z32:A_ Tryz.prog 32=some (List.replicate 3 (.slice none 0 0)):=by kernel_rfl
theorem IX:AX Tryz.prog 32 0=some 0:=by kernel_rfl
theorem J1:AX Tryz.prog 32 1=some 1:=by kernel_rfl
theorem IY:AX Tryz.prog 32 2=some 2:=by kernel_rfl
theorem r6:Ar Tryz.prog 36=some 1:=by kernel_rfl
theorem cV:DN Tryz.prog 36=true:=by kernel_rfl
theorem OM:Ar Tryz.prog 38=some 1:=by kernel_rfl
theorem Lu:D5 Tryz.prog 38=true:=by kernel_rfl
theorem ko:∀ps,Tryz.prog.built 38 ps=Instr.fill (fun i=>(#[(0,1)]:Array (Nat×Nat))[i]?) ([.slice none 0 0]:List Value).toArray ps:=by intro ps;kernel_rfl
theorem Lw:([.slice none 0 0]:List Value).all (·.oneCell')=true:=by kernel_rfl
theorem z38:A_ Tryz.prog 38=some [.slice none 0 0]:=by kernel_rfl
theorem WN:AX Tryz.prog 38 0=some 0:=by kernel_rfl
theorem Pf:Ar Tryz.prog 39=some 1:=by kernel_rfl
theorem Lx:DN Tryz.prog 39=true:=by kernel_rfl
theorem Y_:([.int .i64 0]:List Value).all (·.oneCell')=true:=by kernel_rfl
theorem kr:A_ Tryz.prog 39=some [.int .i64 0]:=by kernel_rfl
theorem Sj:DN Tryz.prog 42=true:=by kernel_rfl
theorem cW:DN Tryz.prog 43=true:=by kernel_rfl
theorem ku:Ar Tryz.prog 45=some 3:=by kernel_rfl
theorem cX:D5 Tryz.prog 45=true:=by kernel_rfl
theorem k4:∀ps,Tryz.prog.built 45 ps=Instr.fill (fun i=>(#[(0,1),(1,1),(2,1)]:Array (Nat×Nat))[i]?) ((List.replicate 3 (.slice none 0 0)):List Value).toArray ps:=by intro ps;kernel_rfl
theorem k5:((List.replicate 3 (.slice none 0 0)):List Value).all (·.oneCell')=true:=by kernel_rfl
theorem ON:AX Tryz.prog 45 0=some 0:=by kernel_rfl
theorem WO:AX Tryz.prog 45 1=some 1:=by kernel_rfl
theorem RI:AX Tryz.prog 45 2=some 2:=by kernel_rfl
theorem Bs:Ar Tryz.prog 47=some 2:=by kernel_rfl
theorem B0:D5 Tryz.prog 47=true:=by kernel_rfl
theorem Mg:∀ps,Tryz.prog.built 47 ps=Instr.fill (fun i=>(#[(0,1),(1,1)]:Array (Nat×Nat))[i]?) ((List.replicate 2 (.int .i64 0)):List Value).toArray ps:=by intro ps;kernel_rfl
theorem E2:((List.replicate 2 (.int .i64 0)):List Value).all (·.oneCell')=true:=by kernel_rfl
theorem Sk:A_ Tryz.prog 47=some (List.replicate 2 (.int .i64 0)):=by kernel_rfl
theorem WQ:Ar Tryz.prog 50=some 1:=by kernel_rfl
theorem cY:DN Tryz.prog 50=true:=by kernel_rfl
theorem z50:A_ Tryz.prog 50=some [.slice none 0 0]:=by kernel_rfl
theorem z51:A_ Tryz.prog 51=some [.int .i64 0,.slice none 0 0,.int .i64 0,.int .i64 0]:=by kernel_rfl
theorem WR:Ar Tryz.prog 52=some 4:=by kernel_rfl
theorem cZ:D5 Tryz.prog 52=true:=by kernel_rfl
theorem k6:Bz Tryz.prog 52=some 48:=by kernel_rfl
theorem r7:∀ps,Tryz.prog.built 52 ps=Instr.fill (fun i=>(#[(0,1),(1,1),(2,2)]:Array (Nat×Nat))[i]?) ([.int .i64 0,.slice none 0 0,.int .i64 0,.int .i64 0]:List Value).toArray ps:=by intro ps;kernel_rfl
theorem eR:([.int .i64 0,.slice none 0 0,.int .i64 0,.int .i64 0]:List Value).all (·.oneCell')=true:=by kernel_rfl
theorem z52:A_ Tryz.prog 52=some [.int .i64 0,.slice none 0 0,.int .i64 0,.int .i64 0]:=by kernel_rfl
theorem eS:AX Tryz.prog 52 0=some 0:=by kernel_rfl
theorem eT:AX Tryz.prog 52 1=some 1:=by kernel_rfl
theorem eU:AX Tryz.prog 52 2=some 2:=by kernel_rfl
theorem Qf:A_ Tryz.prog 54=some [.nilFunc]:=by kernel_rfl
theorem r8:∀ps,Tryz.prog.built 66 ps=Instr.fill (fun i=>(#[(0,1),(1,1)]:Array (Nat×Nat))[i]?) ([.slice none 0 0,.int .i64 0]:List Value).toArray ps:=by intro ps;kernel_rfl
theorem r9:([.slice none 0 0,.int .i64 0]:List Value).all (·.oneCell')=true:=by kernel_rfl
theorem eV:AX Tryz.prog 66 0=some 0:=by kernel_rfl
theorem eW:AX Tryz.prog 66 1=some 1:=by kernel_rfl
theorem k7:Ar Tryz.prog 67=some 1:=by kernel_rfl
theorem k8:DN Tryz.prog 67=true:=by kernel_rfl
theorem k9:DN Tryz.prog 70=true:=by kernel_rfl
theorem WS:Ar Tryz.prog 71=some 1:=by kernel_rfl
theorem WT:DN Tryz.prog 71=true:=by kernel_rfl
theorem Co:Ar Tryz.prog 73=some 9:=by kernel_rfl
theorem Dm:D5 Tryz.prog 73=true:=by kernel_rfl
theorem ZA:Bz Tryz.prog 73=some 144:=by kernel_rfl
theorem WU:∀ps,Tryz.prog.built 73 ps=Instr.fill (fun i=>(#[(0,1),(1,1),(2,1),(3,1),(4,1),(5,1),(6,1),(7,1),(8,1)]:Array (Nat×Nat))[i]?) ([.string (ByteArray.mk #[]),.int .i64 0,.int .i64 0,.slice none 0 0,.bool false,.slice none 0 0,.slice none 0 0,.slice none 0 0,.bool false]:List Value).toArray ps:=by intro ps;kernel_rfl
theorem Gf:([.string (ByteArray.mk #[]),.int .i64 0,.int .i64 0,.slice none 0 0,.bool false,.slice none 0 0,.slice none 0 0,.slice none 0 0,.bool false]:List Value).all (·.oneCell')=true:=by kernel_rfl
theorem Ma:A_ Tryz.prog 73=some [.string (ByteArray.mk #[]),.int .i64 0,.int .i64 0,.slice none 0 0,.bool false,.slice none 0 0,.slice none 0 0,.slice none 0 0,.bool false]:=by kernel_rfl
theorem eX:AX Tryz.prog 73 0=some 0:=by kernel_rfl
theorem OO:AX Tryz.prog 73 1=some 1:=by kernel_rfl
theorem OP:AX Tryz.prog 73 2=some 2:=by kernel_rfl
theorem OQ:AX Tryz.prog 73 3=some 3:=by kernel_rfl
theorem eY:AX Tryz.prog 73 4=some 4:=by kernel_rfl
theorem HE:AX Tryz.prog 73 5=some 5:=by kernel_rfl
theorem RJ:AX Tryz.prog 73 6=some 6:=by kernel_rfl
theorem RK:AX Tryz.prog 73 7=some 7:=by kernel_rfl
theorem Bb:Ar Tryz.prog 75=some 2:=by kernel_rfl
theorem A7:D5 Tryz.prog 75=true:=by kernel_rfl
theorem RL:∀ps,Tryz.prog.built 75 ps=Instr.fill (fun i=>(#[(0,1),(1,1)]:Array (Nat×Nat))[i]?) ((List.replicate 2 (.int .i64 0)):List Value).toArray ps:=by intro ps;kernel_rfl
theorem BZ:((List.replicate 2 (.int .i64 0)):List Value).all (·.oneCell')=true:=by kernel_rfl
theorem z75:A_ Tryz.prog 75=some (List.replicate 2 (.int .i64 0)):=by kernel_rfl
theorem WV:AX Tryz.prog 75 0=some 0:=by kernel_rfl
theorem WW:AX Tryz.prog 75 1=some 1:=by kernel_rfl
theorem k_:Ar Tryz.prog 76=some 1:=by kernel_rfl
theorem lA:DN Tryz.prog 76=true:=by kernel_rfl
theorem EF:Ar Tryz.prog 78=some 4:=by kernel_rfl
theorem KT:D5 Tryz.prog 78=true:=by kernel_rfl
theorem eZ:Bz Tryz.prog 78=some 48:=by kernel_rfl
theorem lB:∀ps,Tryz.prog.built 78 ps=Instr.fill (fun i=>(#[(0,2),(2,1),(3,1)]:Array (Nat×Nat))[i]?) ([.int .i64 0,.int .i64 0,.int .i64 0,.slice none 0 0]:List Value).toArray ps:=by intro ps;kernel_rfl
theorem Pg:([.int .i64 0,.int .i64 0,.int .i64 0,.slice none 0 0]:List Value).all (·.oneCell')=true:=by kernel_rfl
theorem Ts:A_ Tryz.prog 78=some [.int .i64 0,.int .i64 0,.int .i64 0,.slice none 0 0]:=by kernel_rfl
theorem ec:AX Tryz.prog 78 0=some 0:=by kernel_rfl
theorem ej:AX Tryz.prog 78 1=some 2:=by kernel_rfl
theorem RM:AX Tryz.prog 78 2=some 3:=by kernel_rfl
theorem GC:Ar Tryz.prog 82=some 2:=by kernel_rfl
theorem WX:D5 Tryz.prog 82=true:=by kernel_rfl
theorem eo:Bz Tryz.prog 82=some 16:=by kernel_rfl
theorem eu:∀ps,Tryz.prog.built 82 ps=Instr.fill (fun i=>(#[(0,1),(1,1)]:Array (Nat×Nat))[i]?) ((List.replicate 2 (.int .i64 0)):List Value).toArray ps:=by intro ps;kernel_rfl
theorem RN:((List.replicate 2 (.int .i64 0)):List Value).all (·.oneCell')=true:=by kernel_rfl
theorem ZB:A_ Tryz.prog 82=some (List.replicate 2 (.int .i64 0)):=by kernel_rfl
theorem ew:AX Tryz.prog 82 0=some 0:=by kernel_rfl
theorem ey:AX Tryz.prog 82 1=some 1:=by kernel_rfl
theorem lC:Ar Tryz.prog 83=some 1:=by kernel_rfl
theorem lD:DN Tryz.prog 83=true:=by kernel_rfl
theorem G2:Ar Tryz.prog 85=some 5:=by kernel_rfl
theorem Ph:D5 Tryz.prog 85=true:=by kernel_rfl
theorem ZC:Bz Tryz.prog 85=some 64:=by kernel_rfl
theorem r_:∀ps,Tryz.prog.built 85 ps=Instr.fill (fun i=>(#[(0,1),(1,1),(2,1),(3,1),(4,1)]:Array (Nat×Nat))[i]?) ([.string (ByteArray.mk #[]),.int .i64 0,.int .i64 0,.slice none 0 0,.int .i64 0]:List Value).toArray ps:=by intro ps;kernel_rfl
theorem WY:([.string (ByteArray.mk #[]),.int .i64 0,.int .i64 0,.slice none 0 0,.int .i64 0]:List Value).all (·.oneCell')=true:=by kernel_rfl
theorem z85:A_ Tryz.prog 85=some [.string (ByteArray.mk #[]),.int .i64 0,.int .i64 0,.slice none 0 0,.int .i64 0]:=by kernel_rfl
theorem ez:AX Tryz.prog 85 0=some 0:=by kernel_rfl
theorem e7:AX Tryz.prog 85 1=some 1:=by kernel_rfl
theorem e9:AX Tryz.prog 85 2=some 2:=by kernel_rfl
theorem RO:AX Tryz.prog 85 3=some 3:=by kernel_rfl
theorem e_:AX Tryz.prog 85 4=some 4:=by kernel_rfl
theorem cj:DN Tryz.prog 89=true:=by kernel_rfl
theorem sA:Ar Tryz.prog 96=some 5:=by kernel_rfl
theorem sB:∀ps,Tryz.prog.built 96 ps=Instr.fill (fun i=>(#[(0,4),(4,1)]:Array (Nat×Nat))[i]?) ([.int .i64 0,.slice none 0 0,.int .i64 0,.int .i64 0,.bool false]:List Value).toArray ps:=by intro ps;kernel_rfl
theorem lE:([.int .i64 0,.slice none 0 0,.int .i64 0,.int .i64 0,.bool false]:List Value).all (·.oneCell')=true:=by kernel_rfl
theorem z96:A_ Tryz.prog 96=some [.int .i64 0,.slice none 0 0,.int .i64 0,.int .i64 0,.bool false]:=by kernel_rfl
theorem fA:AX Tryz.prog 96 0=some 0:=by kernel_rfl
theorem fB:AX Tryz.prog 96 1=some 4:=by kernel_rfl
theorem WZ:Ar Tryz.prog 113=some 8:=by kernel_rfl
theorem fC:D5 Tryz.prog 113=true:=by kernel_rfl
theorem lF:Bz Tryz.prog 113=some 80:=by kernel_rfl
theorem sC:A_ Tryz.prog 113=some [.int .i64 0,.int .i64 0,.int .i64 0,.int .i64 0,.int .i64 0,.int .i64 0,.int .i64 0,.slice none 0 0]:=by kernel_rfl
theorem ZD:AX Tryz.prog 113 0=some 0:=by kernel_rfl
theorem lG:Ar Tryz.prog 120=some 2:=by kernel_rfl
theorem fD:D5 Tryz.prog 120=true:=by kernel_rfl
theorem lH:∀ps,Tryz.prog.built 120 ps=Instr.fill (fun i=>(#[(0,1),(1,1)]:Array (Nat×Nat))[i]?) ((List.replicate 2 (.int .i64 0)):List Value).toArray ps:=by intro ps;kernel_rfl
theorem lI:((List.replicate 2 (.int .i64 0)):List Value).all (·.oneCell')=true:=by kernel_rfl
theorem ZE:AX Tryz.prog 120 0=some 0:=by kernel_rfl
theorem ZF:AX Tryz.prog 120 1=some 1:=by kernel_rfl
theorem CC:Ar Tryz.prog 122=some 15:=by kernel_rfl
theorem FI:D5 Tryz.prog 122=true:=by kernel_rfl
theorem Wa:Bz Tryz.prog 122=some 152:=by kernel_rfl
theorem ck:∀ps,Tryz.prog.built 122 ps=Instr.fill (fun i=>(#[(0,1),(1,1),(2,1),(3,2),(5,1),(6,2),(8,1),(9,1),(10,1),(11,1),(12,1),(13,2)]:Array (Nat×Nat))[i]?) ([.int .i64 0,.string (ByteArray.mk #[]),.string (ByteArray.mk #[]),.int .i64 0,.int .i64 0,.int .i64 0,.int .i64 0,.int .i64 0,.int .i64 0,.int .i64 0,.bool false,.int .i64 0,.slice none 0 0,.int .i64 0,.int .i64 0]:List Value).toArray ps:=by intro ps;kernel_rfl
theorem Gu:([.int .i64 0,.string (ByteArray.mk #[]),.string (ByteArray.mk #[]),.int .i64 0,.int .i64 0,.int .i64 0,.int .i64 0,.int .i64 0,.int .i64 0,.int .i64 0,.bool false,.int .i64 0,.slice none 0 0,.int .i64 0,.int .i64 0]:List Value).all (·.oneCell')=true:=by kernel_rfl
theorem J2:A_ Tryz.prog 122=some [.int .i64 0,.string (ByteArray.mk #[]),.string (ByteArray.mk #[]),.int .i64 0,.int .i64 0,.int .i64 0,.int .i64 0,.int .i64 0,.int .i64 0,.int .i64 0,.bool false,.int .i64 0,.slice none 0 0,.int .i64 0,.int .i64 0]:=by kernel_rfl
theorem ZG:AX Tryz.prog 122 0=some 0:=by kernel_rfl
theorem ZH:AX Tryz.prog 122 1=some 1:=by kernel_rfl
theorem ZI:AX Tryz.prog 122 2=some 2:=by kernel_rfl
theorem ZJ:AX Tryz.prog 122 3=some 3:=by kernel_rfl
theorem ZK:AX Tryz.prog 122 4=some 5:=by kernel_rfl
theorem ZL:AX Tryz.prog 122 5=some 6:=by kernel_rfl
theorem ZM:AX Tryz.prog 122 6=some 8:=by kernel_rfl
theorem ZN:AX Tryz.prog 122 7=some 9:=by kernel_rfl
theorem ZO:AX Tryz.prog 122 8=some 10:=by kernel_rfl
theorem ZP:AX Tryz.prog 122 9=some 11:=by kernel_rfl
theorem Pj:AX Tryz.prog 122 10=some 12:=by kernel_rfl
theorem Wb:AX Tryz.prog 122 11=some 13:=by kernel_rfl
theorem FJ:Ar Tryz.prog 127=some 3:=by kernel_rfl
theorem fE:D5 Tryz.prog 127=true:=by kernel_rfl
theorem cq:Bz Tryz.prog 127=some 24:=by kernel_rfl
theorem lJ:∀ps,Tryz.prog.built 127 ps=Instr.fill (fun i=>(#[(0,2),(2,1)]:Array (Nat×Nat))[i]?) ((List.replicate 3 (.int .i64 0)):List Value).toArray ps:=by intro ps;kernel_rfl
theorem Wc:((List.replicate 3 (.int .i64 0)):List Value).all (·.oneCell')=true:=by kernel_rfl
theorem z127:A_ Tryz.prog 127=some (List.replicate 3 (.int .i64 0)):=by kernel_rfl
theorem ZQ:AX Tryz.prog 127 0=some 0:=by kernel_rfl
theorem ZR:AX Tryz.prog 127 1=some 2:=by kernel_rfl
theorem Wd:Ar Tryz.prog 135=some 1:=by kernel_rfl
theorem fF:DN Tryz.prog 135=true:=by kernel_rfl
theorem lK:Bz Tryz.prog 135=some 24:=by kernel_rfl
theorem lM:([.slice none 0 0]:List Value).all (·.oneCell')=true:=by kernel_rfl
theorem lN:A_ Tryz.prog 135=some [.slice none 0 0]:=by kernel_rfl
theorem lO:Ar Tryz.prog 166=some 1:=by kernel_rfl
theorem fG:DN Tryz.prog 166=true:=by kernel_rfl
theorem lP:([.pointer none]:List Value).all (·.oneCell')=true:=by kernel_rfl
theorem sD:A_ Tryz.prog 166=some [.pointer none]:=by kernel_rfl
theorem Sl:Ar Tryz.prog 170=some 1:=by kernel_rfl
theorem We:DN Tryz.prog 170=true:=by kernel_rfl
theorem cr:Bz Tryz.prog 170=some 4:=by kernel_rfl
theorem cv:([.int .u32 0]:List Value).all (·.oneCell')=true:=by kernel_rfl
theorem ZS:A_ Tryz.prog 170=some [.int .u32 0]:=by kernel_rfl
theorem lQ:Ar Tryz.prog 180=some 1:=by kernel_rfl
theorem fH:DN Tryz.prog 180=true:=by kernel_rfl
theorem cw:Ar Tryz.prog 225=some 2:=by kernel_rfl
theorem Wf:D5 Tryz.prog 225=true:=by kernel_rfl
theorem lR:∀ps,Tryz.prog.built 225 ps=Instr.fill (fun i=>(#[(0,1),(1,1)]:Array (Nat×Nat))[i]?) ((List.replicate 2 (.slice none 0 0)):List Value).toArray ps:=by intro ps;kernel_rfl
theorem Wg:((List.replicate 2 (.slice none 0 0)):List Value).all (·.oneCell')=true:=by kernel_rfl
theorem lS:A_ Tryz.prog 225=some (List.replicate 2 (.slice none 0 0)):=by kernel_rfl
theorem ZT:AX Tryz.prog 225 0=some 0:=by kernel_rfl
theorem ZU:AX Tryz.prog 225 1=some 1:=by kernel_rfl
theorem Ly:DN Tryz.prog 239=true:=by kernel_rfl
theorem lT:([.slice none 0 0]:List Value).all (·.oneCell')=true:=by kernel_rfl
theorem sE:A_ Tryz.prog 239=some [.slice none 0 0]:=by kernel_rfl
theorem lU:∀ps,Tryz.prog.built 241 ps=Instr.fill (fun i=>(#[(0,1),(1,1),(2,1)]:Array (Nat×Nat))[i]?) ([.int .i64 0,.slice none 0 0,.slice none 0 0]:List Value).toArray ps:=by intro ps;kernel_rfl
theorem lV:([.int .i64 0,.slice none 0 0,.slice none 0 0]:List Value).all (·.oneCell')=true:=by kernel_rfl
theorem ZV:AX Tryz.prog 241 0=some 0:=by kernel_rfl
theorem ZW:AX Tryz.prog 241 1=some 1:=by kernel_rfl
theorem lW:Ar Tryz.prog 246=some 1:=by kernel_rfl
theorem Wh:DN Tryz.prog 246=true:=by kernel_rfl
theorem Aq:Ar Tryz.prog 248=some 4:=by kernel_rfl
theorem BA:D5 Tryz.prog 248=true:=by kernel_rfl
theorem NG:Bz Tryz.prog 248=some 64:=by kernel_rfl
theorem KU:∀ps,Tryz.prog.built 248 ps=Instr.fill (fun i=>(#[(0,1),(1,1),(2,1),(3,1)]:Array (Nat×Nat))[i]?) ([.int .i64 0,.slice none 0 0,.bool false,.slice none 0 0]:List Value).toArray ps:=by intro ps;kernel_rfl
theorem Ca:([.int .i64 0,.slice none 0 0,.bool false,.slice none 0 0]:List Value).all (·.oneCell')=true:=by kernel_rfl
theorem C1:A_ Tryz.prog 248=some [.int .i64 0,.slice none 0 0,.bool false,.slice none 0 0]:=by kernel_rfl
theorem OR:AX Tryz.prog 248 0=some 0:=by kernel_rfl
theorem ZX:AX Tryz.prog 248 1=some 1:=by kernel_rfl
theorem OS:AX Tryz.prog 248 2=some 2:=by kernel_rfl
theorem Sm:AX Tryz.prog 248 3=some 3:=by kernel_rfl
theorem B4:Ar Tryz.prog 260=some 12:=by kernel_rfl
theorem C7:D5 Tryz.prog 260=true:=by kernel_rfl
theorem KV:∀ps,Tryz.prog.built 260 ps=Instr.fill (fun i=>(#[(0,1),(1,1),(2,2),(4,2),(6,2),(8,2),(10,1),(11,1)]:Array (Nat×Nat))[i]?) ([.int .i64 0,.string (ByteArray.mk #[]),.int .i64 0,.int .i64 0,.int .i64 0,.int .i64 0,.int .i64 0,.int .i64 0,.int .i64 0,.int .i64 0,.int .i64 0,.int .i64 0]:List Value).toArray ps:=by intro ps;kernel_rfl
theorem DQ:([.int .i64 0,.string (ByteArray.mk #[]),.int .i64 0,.int .i64 0,.int .i64 0,.int .i64 0,.int .i64 0,.int .i64 0,.int .i64 0,.int .i64 0,.int .i64 0,.int .i64 0]:List Value).all (·.oneCell')=true:=by kernel_rfl
theorem GD:A_ Tryz.prog 260=some [.int .i64 0,.string (ByteArray.mk #[]),.int .i64 0,.int .i64 0,.int .i64 0,.int .i64 0,.int .i64 0,.int .i64 0,.int .i64 0,.int .i64 0,.int .i64 0,.int .i64 0]:=by kernel_rfl
theorem Sn:AX Tryz.prog 260 0=some 0:=by kernel_rfl
theorem ZY:AX Tryz.prog 260 3=some 4:=by kernel_rfl
theorem ZZ:AX Tryz.prog 260 4=some 6:=by kernel_rfl
theorem Za:AX Tryz.prog 260 6=some 10:=by kernel_rfl
theorem Zb:AX Tryz.prog 260 7=some 11:=by kernel_rfl
theorem cx:Ar Tryz.prog 300=some 2:=by kernel_rfl
theorem lX:∀ps,Tryz.prog.built 300 ps=Instr.fill (fun i=>(#[(0,1),(1,1)]:Array (Nat×Nat))[i]?) ([.string (ByteArray.mk #[]),.int .i64 0]:List Value).toArray ps:=by intro ps;kernel_rfl
theorem cz:([.string (ByteArray.mk #[]),.int .i64 0]:List Value).all (·.oneCell')=true:=by kernel_rfl
theorem sF:A_ Tryz.prog 300=some [.string (ByteArray.mk #[]),.int .i64 0]:=by kernel_rfl
theorem Zc:AX Tryz.prog 300 1=some 1:=by kernel_rfl
theorem lY:Ar Tryz.prog 311=some 1:=by kernel_rfl
theorem lZ:([.map none]:List Value).all (·.oneCell')=true:=by kernel_rfl
theorem sG:A_ Tryz.prog 311=some [.map none]:=by kernel_rfl
theorem NH:Ar Tryz.prog 326=some 5:=by kernel_rfl
theorem OT:D5 Tryz.prog 326=true:=by kernel_rfl
theorem DH:∀ps,Tryz.prog.built 326 ps=Instr.fill (fun i=>(#[(0,1),(1,1),(2,1),(3,1),(4,1)]:Array (Nat×Nat))[i]?) ([.string (ByteArray.mk #[]),.int .i64 0,.int .i64 0,.slice none 0 0,.slice none 0 0]:List Value).toArray ps:=by intro ps;kernel_rfl
theorem C3:([.string (ByteArray.mk #[]),.int .i64 0,.int .i64 0,.slice none 0 0,.slice none 0 0]:List Value).all (·.oneCell')=true:=by kernel_rfl
theorem fI:A_ Tryz.prog 326=some [.string (ByteArray.mk #[]),.int .i64 0,.int .i64 0,.slice none 0 0,.slice none 0 0]:=by kernel_rfl
theorem Zd:AX Tryz.prog 326 1=some 1:=by kernel_rfl
theorem Ze:AX Tryz.prog 326 2=some 2:=by kernel_rfl
theorem Zf:AX Tryz.prog 326 3=some 3:=by kernel_rfl
theorem Zg:AX Tryz.prog 326 4=some 4:=by kernel_rfl
theorem ld:Ar Tryz.prog 361=some 11:=by kernel_rfl
theorem fJ:D5 Tryz.prog 361=true:=by kernel_rfl
theorem lp:∀ps,Tryz.prog.built 361 ps=Instr.fill (fun i=>(#[(0,9),(9,1),(10,1)]:Array (Nat×Nat))[i]?) ([.string (ByteArray.mk #[]),.int .i64 0,.int .i64 0,.slice none 0 0,.bool false,.slice none 0 0,.slice none 0 0,.slice none 0 0,.bool false,.int .i64 0,.slice none 0 0]:List Value).toArray ps:=by intro ps;kernel_rfl
theorem c_:([.string (ByteArray.mk #[]),.int .i64 0,.int .i64 0,.slice none 0 0,.bool false,.slice none 0 0,.slice none 0 0,.slice none 0 0,.bool false,.int .i64 0,.slice none 0 0]:List Value).all (·.oneCell')=true:=by kernel_rfl
theorem sH:A_ Tryz.prog 361=some [.string (ByteArray.mk #[]),.int .i64 0,.int .i64 0,.slice none 0 0,.bool false,.slice none 0 0,.slice none 0 0,.slice none 0 0,.bool false,.int .i64 0,.slice none 0 0]:=by kernel_rfl
theorem Zh:AX Tryz.prog 361 0=some 0:=by kernel_rfl
theorem Zi:AX Tryz.prog 361 1=some 9:=by kernel_rfl
theorem Zj:AX Tryz.prog 361 2=some 10:=by kernel_rfl
theorem dA:Ar Tryz.prog 365=some 115:=by kernel_rfl
theorem fK:D5 Tryz.prog 365=true:=by kernel_rfl
theorem lq:∀ps,Tryz.prog.built 365 ps=Instr.fill (fun i=>some (i*5,5)) ([.string (ByteArray.mk #[]),.int .i64 0,.int .i64 0,.slice none 0 0,.slice none 0 0,.string (ByteArray.mk #[]),.int .i64 0,.int .i64 0,.slice none 0 0,.slice none 0 0,.string (ByteArray.mk #[]),.int .i64 0,.int .i64 0,.slice none 0 0,.slice none 0 0,.string (ByteArray.mk #[]),.int .i64 0,.int .i64 0,.slice none 0 0,.slice none 0 0,.string (ByteArray.mk #[]),.int .i64 0,.int .i64 0,.slice none 0 0,.slice none 0 0,.string (ByteArray.mk #[]),.int .i64 0,.int .i64 0,.slice none 0 0,.slice none 0 0,.string (ByteArray.mk #[]),.int .i64 0,.int .i64 0,.slice none 0 0,.slice none 0 0,.string (ByteArray.mk #[]),.int .i64 0,.int .i64 0,.slice none 0 0,.slice none 0 0,.string (ByteArray.mk #[]),.int .i64 0,.int .i64 0,.slice none 0 0,.slice none 0 0,.string (ByteArray.mk #[]),.int .i64 0,.int .i64 0,.slice none 0 0,.slice none 0 0,.string (ByteArray.mk #[]),.int .i64 0,.int .i64 0,.slice none 0 0,.slice none 0 0,.string (ByteArray.mk #[]),.int .i64 0,.int .i64 0,.slice none 0 0,.slice none 0 0,.string (ByteArray.mk #[]),.int .i64 0,.int .i64 0,.slice none 0 0,.slice none 0 0,.string (ByteArray.mk #[]),.int .i64 0,.int .i64 0,.slice none 0 0,.slice none 0 0,.string (ByteArray.mk #[]),.int .i64 0,.int .i64 0,.slice none 0 0,.slice none 0 0,.string (ByteArray.mk #[]),.int .i64 0,.int .i64 0,.slice none 0 0,.slice none 0 0,.string (ByteArray.mk #[]),.int .i64 0,.int .i64 0,.slice none 0 0,.slice none 0 0,.string (ByteArray.mk #[]),.int .i64 0,.int .i64 0,.slice none 0 0,.slice none 0 0,.string (ByteArray.mk #[]),.int .i64 0,.int .i64 0,.slice none 0 0,.slice none 0 0,.string (ByteArray.mk #[]),.int .i64 0,.int .i64 0,.slice none 0 0,.slice none 0 0,.string (ByteArray.mk #[]),.int .i64 0,.int .i64 0,.slice none 0 0,.slice none 0 0,.string (ByteArray.mk #[]),.int .i64 0,.int .i64 0,.slice none 0 0,.slice none 0 0,.string (ByteArray.mk #[]),.int .i64 0,.int .i64 0,.slice none 0 0,.slice none 0 0]:List Value).toArray ps:=by intro ps;kernel_rfl
theorem dB:([.string (ByteArray.mk #[]),.int .i64 0,.int .i64 0,.slice none 0 0,.slice none 0 0,.string (ByteArray.mk #[]),.int .i64 0,.int .i64 0,.slice none 0 0,.slice none 0 0,.string (ByteArray.mk #[]),.int .i64 0,.int .i64 0,.slice none 0 0,.slice none 0 0,.string (ByteArray.mk #[]),.int .i64 0,.int .i64 0,.slice none 0 0,.slice none 0 0,.string (ByteArray.mk #[]),.int .i64 0,.int .i64 0,.slice none 0 0,.slice none 0 0,.string (ByteArray.mk #[]),.int .i64 0,.int .i64 0,.slice none 0 0,.slice none 0 0,.string (ByteArray.mk #[]),.int .i64 0,.int .i64 0,.slice none 0 0,.slice none 0 0,.string (ByteArray.mk #[]),.int .i64 0,.int .i64 0,.slice none 0 0,.slice none 0 0,.string (ByteArray.mk #[]),.int .i64 0,.int .i64 0,.slice none 0 0,.slice none 0 0,.string (ByteArray.mk #[]),.int .i64 0,.int .i64 0,.slice none 0 0,.slice none 0 0,.string (ByteArray.mk #[]),.int .i64 0,.int .i64 0,.slice none 0 0,.slice none 0 0,.string (ByteArray.mk #[]),.int .i64 0,.int .i64 0,.slice none 0 0,.slice none 0 0,.string (ByteArray.mk #[]),.int .i64 0,.int .i64 0,.slice none 0 0,.slice none 0 0,.string (ByteArray.mk #[]),.int .i64 0,.int .i64 0,.slice none 0 0,.slice none 0 0,.string (ByteArray.mk #[]),.int .i64 0,.int .i64 0,.slice none 0 0,.slice none 0 0,.string (ByteArray.mk #[]),.int .i64 0,.int .i64 0,.slice none 0 0,.slice none 0 0,.string (ByteArray.mk #[]),.int .i64 0,.int .i64 0,.slice none 0 0,.slice none 0 0,.string (ByteArray.mk #[]),.int .i64 0,.int .i64 0,.slice none 0 0,.slice none 0 0,.string (ByteArray.mk #[]),.int .i64 0,.int .i64 0,.slice none 0 0,.slice none 0 0,.string (ByteArray.mk #[]),.int .i64 0,.int .i64 0,.slice none 0 0,.slice none 0 0,.string (ByteArray.mk #[]),.int .i64 0,.int .i64 0,.slice none 0 0,.slice none 0 0,.string (ByteArray.mk #[]),.int .i64 0,.int .i64 0,.slice none 0 0,.slice none 0 0,.string (ByteArray.mk #[]),.int .i64 0,.int .i64 0,.slice none 0 0,.slice none 0 0]:List Value).all (·.oneCell')=true:=by kernel_rfl
theorem sI:A_ Tryz.prog 365=some [.string (ByteArray.mk #[]),.int .i64 0,.int .i64 0,.slice none 0 0,.slice none 0 0,.string (ByteArray.mk #[]),.int .i64 0,.int .i64 0,.slice none 0 0,.slice none 0 0,.string (ByteArray.mk #[]),.int .i64 0,.int .i64 0,.slice none 0 0,.slice none 0 0,.string (ByteArray.mk #[]),.int .i64 0,.int .i64 0,.slice none 0 0,.slice none 0 0,.string (ByteArray.mk #[]),.int .i64 0,.int .i64 0,.slice none 0 0,.slice none 0 0,.string (ByteArray.mk #[]),.int .i64 0,.int .i64 0,.slice none 0 0,.slice none 0 0,.string (ByteArray.mk #[]),.int .i64 0,.int .i64 0,.slice none 0 0,.slice none 0 0,.string (ByteArray.mk #[]),.int .i64 0,.int .i64 0,.slice none 0 0,.slice none 0 0,.string (ByteArray.mk #[]),.int .i64 0,.int .i64 0,.slice none 0 0,.slice none 0 0,.string (ByteArray.mk #[]),.int .i64 0,.int .i64 0,.slice none 0 0,.slice none 0 0,.string (ByteArray.mk #[]),.int .i64 0,.int .i64 0,.slice none 0 0,.slice none 0 0,.string (ByteArray.mk #[]),.int .i64 0,.int .i64 0,.slice none 0 0,.slice none 0 0,.string (ByteArray.mk #[]),.int .i64 0,.int .i64 0,.slice none 0 0,.slice none 0 0,.string (ByteArray.mk #[]),.int .i64 0,.int .i64 0,.slice none 0 0,.slice none 0 0,.string (ByteArray.mk #[]),.int .i64 0,.int .i64 0,.slice none 0 0,.slice none 0 0,.string (ByteArray.mk #[]),.int .i64 0,.int .i64 0,.slice none 0 0,.slice none 0 0,.string (ByteArray.mk #[]),.int .i64 0,.int .i64 0,.slice none 0 0,.slice none 0 0,.string (ByteArray.mk #[]),.int .i64 0,.int .i64 0,.slice none 0 0,.slice none 0 0,.string (ByteArray.mk #[]),.int .i64 0,.int .i64 0,.slice none 0 0,.slice none 0 0,.string (ByteArray.mk #[]),.int .i64 0,.int .i64 0,.slice none 0 0,.slice none 0 0,.string (ByteArray.mk #[]),.int .i64 0,.int .i64 0,.slice none 0 0,.slice none 0 0,.string (ByteArray.mk #[]),.int .i64 0,.int .i64 0,.slice none 0 0,.slice none 0 0,.string (ByteArray.mk #[]),.int .i64 0,.int .i64 0,.slice none 0 0,.slice none 0 0]:=by kernel_rfl
theorem dD:Ar Tryz.prog 367=some 2:=by kernel_rfl
theorem fL:D5 Tryz.prog 367=true:=by kernel_rfl
theorem lu:∀ps,Tryz.prog.built 367 ps=Instr.fill (fun i=>some (i*1,1)) ((List.replicate 2 (.int .i64 0)):List Value).toArray ps:=by intro ps;kernel_rfl
theorem dF:((List.replicate 2 (.int .i64 0)):List Value).all (·.oneCell')=true:=by kernel_rfl
theorem sJ:A_ Tryz.prog 367=some (List.replicate 2 (.int .i64 0)):=by kernel_rfl
theorem lz:∀ps,Tryz.prog.built 368 ps=Instr.fill (fun i=>some (i*2,2)) ((List.replicate 10 (.int .i64 0)):List Value).toArray ps:=by intro ps;kernel_rfl
theorem l5:((List.replicate 10 (.int .i64 0)):List Value).all (·.oneCell')=true:=by kernel_rfl
theorem l6:∀ps,Tryz.prog.built 406 ps=Instr.fill (fun i=>some (i*1,1)) ((List.replicate 2 (.int .i64 0)):List Value).toArray ps:=by intro ps;kernel_rfl
theorem l7:((List.replicate 2 (.int .i64 0)):List Value).all (·.oneCell')=true:=by kernel_rfl
theorem l9:∀ps,Tryz.prog.built 408 ps=Instr.fill (fun i=>some (i*1,1)) ((List.replicate 3 (.int .i64 0)):List Value).toArray ps:=by intro ps;kernel_rfl
theorem l_:((List.replicate 3 (.int .i64 0)):List Value).all (·.oneCell')=true:=by kernel_rfl
end Go.Proofs.YthommhphcagokaaGreatDoor
namespace Cp
open Go Go.RowKit Go.Great
variable{a:Act}{ops:Array Oper}{M:Av}{f:FuncId}{rows:List (List Pr)}{ps qs:List Pr}{zs:List Value}{d i j k m:Nat}{x:Operand}{p:Pr}{T e:TypeId}{v:Value}{w:World}
section
variable{P:Program}{L:Lg P}{n:Fm}{fz:Nat}{E:Env}{M0:Av}{w0:World}{S:Nat->Prop}{rs:List At}{o:Oper}
def lens(m:Nat):Pr where
 h _ _ v:=∃a c,v= .slice a m c
 st _M _w _M' _w' _v _ h:=h
instance mA (m:Nat):One (lens m):=⟨by rintro M w v ⟨a,c,rfl⟩;exact⟨rfl,rfl⟩⟩
def Cq(e:TypeId)(sz:Nat)(rows:List (List Pr))(v:Value):At where
 blk:=match v with| .slice (some a) _ _=>some a.block|_=>none
 new:=true
 h M w:=∃(b cap:Nat) (spare:List Value),v= .slice (some ⟨b,0,none⟩) rows.length cap/\rows.length<=cap/\cap<=maxLen/\spare.length=(cap-rows.length)*sz/\(AF true b e (rows.flatten++spare.map is)).h M w
 st M w M' w' he hk h:=by
  obtain⟨b,cap,spare,rfl,h1,h2,h3,h4⟩:=h;exact⟨b,cap,spare,rfl,h1,h2,h3,(AF true b e _).st _ _ _ _ he hk h4⟩
theorem Hs{sz:Nat}:∀{rows:List (List Pr)} {i j:Nat} {row:List Pr},(∀r∈rows,r.length=sz)->rows[i]? =some row->j<sz->rows.flatten[i*sz+j]? =row[j]?
 |[],_,_,_,_,h,_=>by simp at h
 |a::l,0,j,row,hl,h,hj=>by
  simp at h;subst h;have:=hl a AO;rw[List.flatten_cons,Nat.zero_mul,Nat.zero_add,List.getElem?_append_left AA]
 |a::l,i+1,j,row,hl,h,hj=>by
  have h1:=hl a AO;rw[List.flatten_cons,Nat.succ_mul,List.getElem?_append_right AA,h1,show i*sz+sz+j-sz=i*sz+j by omega];exact Hs (fun r hr=>hl r (List.mem_cons_of_mem _ hr)) EP hj
theorem DA{sz:Nat}:∀{rows:List (List Pr)},(∀r∈rows,r.length=sz)->rows.flatten.length=rows.length*sz
 |[],_=>by simp
 |a::l,h=>by
  rw[List.flatten_cons,List.length_append,DA (fun r hr=>h r (List.mem_cons_of_mem _ hr)),h a AO,List.length_cons,Nat.succ_mul];omega
theorem So{M:Av}{w:World}:∀{ps:List Pr} {vs:List Value},vs.length=ps.length->(∀(k:Nat) p,ps[k]? =some p->∃u,vs[k]? =some u/\p.h M w u)->HL M w ps vs
 |[],[],_,_=>trivial
 |[],_::_,h,_=>by simp at h
 |_::_,[],h,_=>by simp at h
 |p::ps,v::vs,h,hk=>by
  refine⟨?_,So EP fun k q hq=>by simpa using hk (k+1) q (by simpa using hq)⟩;obtain⟨u,hu,hp⟩:=hk 0 p rfl;simp at hu;subst hu;exact hp
theorem Flat.hl{sz:Nat}{news:List Value}(hsz:0<sz)(h:Flat M w sz rows news):HL M w rows.flatten news:=by
 have hl:∀r∈rows,r.length=sz:=fun r hr=>by obtain⟨i,hi⟩:=List.mem_iff_getElem?.1 hr;exact(h.2.2 i r hi).1
 refine So (by rw[h.1,DA hl]) fun k p hk=>?_;have PR:k<rows.length*sz:=by rw[←DA hl];rcases Nat.lt_or_ge k rows.flatten.length with h|h;exact h;rw[List.getElem?_eq_none h]at hk;cases hk
 have hi:k/sz<rows.length:=Nat.div_lt_of_lt_mul (by rw[Nat.mul_comm];exact PR);have hj:k % sz<sz:=Nat.mod_lt _ hsz;have he:k/sz*sz+k % sz=k:=by rw[Nat.mul_comm];exact Nat.div_add_mod k sz
 have hr:=List.getElem?_eq_getElem hi;rw[←he,Hs hl hr hj]at hk;obtain⟨u,hu,hp⟩:=(h.2.2 _ _ hr).2 _ p hk;exact⟨u,by rw[←he];exact hu,hp⟩
theorem HL.flat{sz:Nat}{cs:List Value}(hl:∀r∈rows,r.length=sz)(h:HL M w (rows.flatten++qs) cs)(h1:∀c∈cs,c.oneCell'=true):Flat M w sz rows (cs.take (rows.length*sz)):=by
 have hfl:=DA hl;have hlen:=h.length;refine⟨by rw[List.length_take,hlen,List.length_append,hfl];omega,fun u hu=>h1 u (List.mem_of_mem_take hu),fun i row hi=>?_⟩;have hrl:=hl row (List.mem_of_getElem? hi);refine⟨hrl,fun j p hp=>?_⟩;have hjl:j<sz:=by grind
 have Ey:i<rows.length:=by grind
 have hlt:i*sz+j<rows.length*sz:=by have:(i+1)*sz<=rows.length*sz:=Nat.mul_le_mul_right sz Ey;rw[Nat.add_mul]at this;omega
 obtain⟨u,hu,hh⟩:=h.at_ (i*sz+j) p (by rw[List.getElem?_append_left (by rw[hfl];exact hlt),Hs hl hi hjl];exact hp);exact⟨u,by rw[List.getElem?_take,if_pos hlt];exact hu,hh⟩
theorem Fz{z:Array Value}(hz:z.toList=zs)(h1:zs.all (·.oneCell')=true):∀c∈(Builtin.zeroCells z k).toList,c.oneCell'=true:=by
 intro c hc;simp only[Builtin.zeroCells,Array.toList_map,Array.toList_range,List.mem_map,List.mem_range]at hc;obtain⟨i,hi,rfl⟩:=hc;have hpos:0<z.size:=by grind
 have hm:i % z.size<z.size:=Nat.mod_lt _ hpos;rw[getElem!_pos z _ hm];exact List.all_eq_true.1 h1 _ (by rw[←hz];simp)
theorem Zk{t ty:TypeId}{sz bytes:Nat}{u:Value}(ht:P.underlying t=some (.slice e))(hz:Ar P e=some sz)(hby:Bz P e=some bytes)(Dc:A_ P e=some zs)(hzl:zs.length=sz)(hone:zs.all (·.oneCell')=true)(hsz:0<sz)(h:A0 M0 w0 S rs M w)(hj:rs[j]? =some Bj)(hu:(slice sz rows).h M w u)(hpos:0<rows.length)(FA:rows.length<=maxLen)(hfit:rows.length*bytes<=140737488355328):
  ∃v' w' M',(Builtin.append_ #[t,t] ty #[.slice none 0 0,u]).run P w= .ok v' w'/\(lens rows.length).h M' w' v'/\Ext M w M' w'/\A0 M0 w0 S (rs.set j (Cq e sz rows v')) M' w':=by
 unfold Ar at hz;unfold Bz at hby;unfold A_ at Dc;cases hi:P.info? e with
 |none=>rw[hi]at hz;cases hz
 |some i=>
  rw[hi]at hz hby Dc;simp only[Option.map_some,Option.some.injEq,Option.map_eq_some_iff]at hz hby Dc;obtain⟨z,SZ,Dc⟩:=Dc;have V5:z.cells.size=sz:=by rw[←hzl,←Dc];simp
  obtain⟨A',c',rfl,U5,RC,YY,FE⟩:=hu;have O3:(slice sz rows).h M w (.slice A' rows.length c'):=⟨A',c',rfl,U5,RC,YY,FE⟩
  obtain⟨M_,rfl⟩:∃M_,A'=some M_:=by
   obtain⟨_,b,hb,_⟩:=FE 0 _ (List.getElem?_eq_getElem hpos);exact⟨b,hb⟩
  obtain⟨news,hfl,hcell⟩:=EU hsz O3;have hrun:=run_append_nil (P:=P) w t ty e i z ht hi SZ M_ rows.length c' news (by rw[hz];exact hfl.1) (fun k u hk=>(hcell k u hk).1) hpos N5 (by rw[hby];omega)
  generalize hcap:grownCap w rows.length 0 e=cap at hrun
  have hge:rows.length<=cap:=by rw[←hcap];exact grownCap_ge _ _ _ _
  have hle:cap<=maxLen:=by rw[←hcap];exact grownCap_le_maxLen _ _ _ _ FA
  generalize Md:Builtin.zeroCells z.cells (cap-rows.length)=zc at hrun
  have hzs:zc.size=(cap-rows.length)*sz:=by rw[←Md,size_zeroCells,V5]
  have mB:∀c∈zc.toList,c.oneCell'=true:=by rw[←Md];exact Fz Dc hone
  have hb:Below w.heap.size w (w.drew.alloc (.cells (news.toArray++zc) e)):=((Below.refl _ _).drew).alloc (Nat.le_refl _) _;have h2:=Ext.below (M:=M) hb
  have ED:Ext M w (fun b o=>M b o\/b=w.heap.size) (w.drew.alloc (.cells (news.toArray++zc) e)):=by
   refine⟨h2.size,fun a v hc hm=>⟨fun hx=>?_,(h2.keep a v hc hm).2⟩,fun b o ho hp hm=>⟨fun hx=>?_,(h2.obj b o ho hp hm).2⟩⟩
   .
    rcases hx with hx|hx
    .exact hm hx
    .exact EA
   .grind
  have hs1:(w.drew.alloc (.cells (news.toArray++zc) e)).heap.size=w.heap.size+1:=by simp
  refine⟨_,_,fun b o=>M b o\/b=w.heap.size,hrun,⟨_,_,rfl⟩,ED,?_⟩;refine h.replace hj ED hb.os hb.tape hb.output (fun k hk _=>hb.block k hk) rfl (fun b o hm _=> .inl hm) (fun b o hx=>?_) ?_ rfl (fun b hbk=>?_)
  .
   rcases hx with hx|hx
   .exact I2
   .omega
  .
   refine⟨w.heap.size,cap,zc.toList,rfl,hge,hle,by simpa using hzs,fun o=> .inr rfl,news++zc.toList,?_,?_,?_⟩
   .
    have hh:(w.drew.alloc (.cells (news.toArray++zc) e)).heap[w.heap.size]? =some (.cells (news.toArray++zc) e (0,0)):=heap_alloc_new w.drew _;rw[hh];simp
   .exact((hfl.st ED).hl hsz).app (Le _ _ _)
   .
    intro c hc;rcases List.mem_append.1 hc with hc|hc
    .exact hfl.2.1 c hc
    .exact mB c hc
  .
   have Dw:some w.heap.size=some b:=hbk
   injection Dw with e1
   subst e1;exact⟨by rw[hs1];omega,.inr (Nat.le_refl _)⟩
theorem St.JC{sz:Nat}(j:Nat)(hj:rs[j]? =some (Cq e sz rows v))(h:St n E (Hp M0 w0 S rs) a w):
  ∃(b cap:Nat) (spare:List Value),v= .slice (some ⟨b,0,none⟩) rows.length cap/\rows.length<=cap/\cap<=maxLen/\spare.length=(cap-rows.length)*sz/\St n E (Hp M0 w0 S (rs.set j (AF true b e (rows.flatten++spare.map is)))) a w:=by
 obtain⟨M,h1,h2,h3,h4⟩:=h;have h4:A0 M0 w0 S rs M w:=h4;obtain⟨b,cap,spare,rfl,h5,h6,h7,h8⟩:=(h4.hold _ (List.mem_of_getElem? hj)).1;exact⟨b,cap,spare,rfl,h5,h6,h7,M,h1,h2,h3,h4.DG hj rfl rfl h8⟩
theorem Tr.JC{Q:Exit->Act->World->Prop}{c:Code}{sz:Nat}(j:Nat)(hj:rs[j]? =some (Cq e sz rows v))(k:∀(b cap:Nat) (spare:List Value),v= .slice (some ⟨b,0,none⟩) rows.length cap->rows.length<=cap->cap<=maxLen->spare.length=(cap-rows.length)*sz->Tr L n E (Hp M0 w0 S (rs.set j (AF true b e (rows.flatten++spare.map is)))) c Q):Tr L n E (Hp M0 w0 S rs) c Q:=
 fun a w hs=>let ⟨b,cap,spare,h1,h2,h3,h4,h5⟩:=hs.JC j hj;k b cap spare h1 h2 h3 h4 a w h5
theorem Fin.JC{Q:Exit->Act->World->Prop}{ex:Exit}{sz:Nat}(j:Nat)(hj:rs[j]? =some (Cq e sz rows v))(k:∀(b cap:Nat) (spare:List Value),v= .slice (some ⟨b,0,none⟩) rows.length cap->rows.length<=cap->cap<=maxLen->spare.length=(cap-rows.length)*sz->Fin n E (Hp M0 w0 S (rs.set j (AF true b e (rows.flatten++spare.map is)))) Q ex):Fin n E (Hp M0 w0 S rs) Q ex:=
 fun a w hs=>let ⟨b,cap,spare,h1,h2,h3,h4,h5⟩:=hs.JC j hj;k b cap spare h1 h2 h3 h4 a w h5
theorem A0.jI{b cap sz:Nat}(h:A0 M0 w0 S rs M w)(hj:rs[j]? =some (AF true b e (rows.flatten++qs)))(hl:∀r∈rows,r.length=sz)(hc:rows.length<=cap)(hm:cap<=maxLen)(hq:qs.length=(cap-rows.length)*sz):
  ∃M',Ext M w M' w/\A0 M0 w0 S (rs.set j (A8 e sz (.slice (some ⟨b,0,none⟩) rows.length cap))) M' w/\(slice sz rows).h M' w (.slice (some ⟨b,0,none⟩) rows.length cap):=by
 obtain⟨⟨hM,cs,hh,hcs,hone⟩,jA⟩:=h.hold _ (List.mem_of_getElem? hj);have mC:=(jA b rfl).1;have hfl:=HL.flat hl hcs hone;have hlen:=hcs.length;rw[List.length_append,DA hl,hq,←Nat.add_mul,show rows.length+(cap-rows.length)=cap by omega]at hlen;have he:Ext M w (fun b' o=>M b' o/\¬(b'=b/\o<rows.length*sz)) w:=Ext.less fun _ _ h=>h.1;refine⟨_,he,?_,Dh (hfl.st he) hc hm fun k u hk=>?_⟩
 .
  refine h.replace hj he rfl rfl rfl (fun _ _ _=>rfl) rfl (fun b' o hm' hne=>⟨hm',fun hx=>hne (by rw[hx.1];rfl)⟩) (fun b' o hx=>h.bd _ _ hx.1) ?_ rfl (fun b' hbk=>?_)
  .
   intro a' n' c' hv hlt
   injection hv with e1 e2 e3
   injection e1 with e1
   subst e1;subst e2;subst e3;refine⟨⟨cs.take (rows.length*sz),hfl.1,.inr ⟨b,cap,cs.toArray,rfl,Nat.zero_le _,hh,hc,hm,by simpa using hlen,by simp⟩⟩,fun o ho=>⟨hM o,fun hx=>by omega⟩⟩
  .
   have Dw:Cz (.slice (some ⟨b,0,none⟩) rows.length cap)=some b':=hbk;simp only[Cz]at Dw
   split at Dw
   .simp at Dw;subst Dw;exact⟨mC,.inl rfl⟩
   .cases Dw
 .
  have PR:k<rows.length*sz:=by rw[←hfl.1];rcases Nat.lt_or_ge k (cs.take (rows.length*sz)).length with h|h;exact h;rw[List.getElem?_eq_none h]at hk;cases hk
  rw[List.getElem?_take,if_pos PR]at hk;exact⟨by simp[World.cell?,hh,hk],fun hx=>hx.2 ⟨rfl,PR⟩⟩
end
abbrev str(l:List UInt8):Pr:=is (.string ⟨l.toArray⟩)
theorem IZ(l:List UInt8):(ByteArray.mk l.toArray).toList=l:=by rw[ByteArray.toList_eq]
theorem HF(l:List UInt8):(ByteArray.mk l.toArray).size=l.length:=rfl
section
variable{P:Program}{L:Lg P}{E:Env}{I:B3}{o:Oper}
theorem fM{t u:TypeId}{y:Operand}{a b:List UInt8}(ho:o.op= .binOp .eql t x y u)(hx:VL E x (str a))(hy:VL E y (str b)):Ac P I o E (bool (decide (a=b))):=
 Ac.same fun M w ac he _=>by
  have h1:ac.eval x=_:=hx.ev he Ax;have h2:ac.eval y=_:=hy.ev he Ax;refine⟨_,by simp[execOp,ho,h1,h2,eqGuard,binOp,Op.stringOp,IZ];rfl,?_⟩;show Value.bool _=Value.bool _
  congr 1
  rw[Bool.eq_iff_iff];simp
theorem fN{t u:TypeId}{y:Operand}{a b:List UInt8}(ho:o.op= .binOp .neq t x y u)(hx:VL E x (str a))(hy:VL E y (str b)):Ac P I o E (bool (!decide (a=b))):=
 Ac.same fun M w ac he _=>by
  have h1:ac.eval x=_:=hx.ev he Ax;have h2:ac.eval y=_:=hy.ev he Ax;refine⟨_,by simp[execOp,ho,h1,h2,eqGuard,binOp,Op.stringOp,IZ];rfl,?_⟩;show Value.bool _=Value.bool _
  congr 1
  rw[Bool.eq_iff_iff];simp
theorem Pk:∀(a b:List UInt8),Op.bytesLess a b=decide (Lib.compareBytes a b= -1)
 |_,[]=>by cases ‹List UInt8›<;>simp[Op.bytesLess,Lib.compareBytes]
 |[],_::_=>by simp[Op.bytesLess,Lib.compareBytes]
 |a::x,b::y=>by
  rw[Op.bytesLess,Pk x y,Lib.compareBytes]
  by_cases h1:a<b
  .simp[h1]
  .
   by_cases h2:b<a
   .
    have h3:a≠b:=fun e=>by subst e;exact h1 h2
    simp[h1,h2,h3]
   .
    have h3:a=b:=UInt8.le_antisymm (UInt8.not_lt.1 h2) (UInt8.not_lt.1 h1);simp[h1,h2,h3]
theorem Ia{t u:TypeId}{y:Operand}{a b:List UInt8}(ho:o.op= .binOp .geq t x y u)(hx:VL E x (str a))(hy:VL E y (str b)):Ac P I o E (bool (!decide (Lib.compareBytes a b= -1))):=
 Ac.same fun M w ac he _=>by
  have h1:ac.eval x=_:=hx.ev he Ax;have h2:ac.eval y=_:=hy.ev he Ax;exact⟨_,by simp[execOp,ho,h1,h2,eqGuard,binOp,Op.stringOp,IZ,Pk],rfl⟩
theorem Zl{t:TypeId}{a:List UInt8}(ho:o.op= .call { callee:= .builtin .len,args:= #[x],argTypes:= #[t] })(ht:P.underlying t=some .string)(hx:VL E x (str a)):Ac P I o E (int ((a.length:Nat):Int)):=
 Ac.same fun M w ac he _=>by
  have h1:ac.eval x=_:=hx.ev he Cb;exact⟨.int .i64 a.length,by simp[execOp,ho,resolve,invoke,builtin,Builtin.len_,h1,run_underlying ht,goInt,HF],rfl⟩
theorem K7{t:TypeId}{y:Operand}{k:IntKind}{a:List UInt8}{i:Int}{c:UInt8}(ho:o.op= .index t x y)(ht:P.underlying t=some .string)(hx:VL E x (str a))(hy:VL E y (is (.int k i)))(h0:0<=i)(hc:a[i.toNat]? =some c):Ac P I o E (is (.int .u8 c.toNat)):=
 Ac.same fun M w ac he _=>by
  have h1:ac.eval x=_:=hx.ev he Ax;have h2:ac.eval y=_:=hy.ev he Ax;refine⟨_,?_,rfl⟩;have hlt:i.toNat<a.length:=by rcases Nat.lt_or_ge i.toNat a.length with h|h;exact h;rw[List.getElem?_eq_none h]at hc;cases hc
  have h3:(ByteArray.mk a.toArray)[i.toNat]? =some c:=by
   rw[getElem?_pos (ByteArray.mk a.toArray) i.toNat (by rw[HF];exact hlt)];rw[List.getElem?_eq_getElem hlt]at hc;simp only[Option.some.injEq]at hc;rw[←hc];rfl
  simp[execOp,ho,h1,h2,Instr.index,asIntOf,run_underlying ht,h0,h3]
theorem HG{s t:TypeId}{a:List UInt8}(ho:o.op= .convert s t x)(hs:P.underlying s=some .string)(ht:P.underlying t=some (.slice e))(he:P.underlying e=some (.int .u8))(hx:VL E x (str a))(hm:a.length<=maxLen):Ac P I o E (slice 1 (a.map fun c=>[is (.int .u8 c.toNat)])):=
 Ac.val fun M w ac fO hI=>by
  have h1:ac.eval x=_:=hx.ev fO Ax;have hrun:=Lib.run_convert_string_bytes (P:=P) w s t e ⟨a.toArray⟩ hs ht he;have hcap:=grownCap_ge w a.length 0 e;have hcm:=grownCap_le_maxLen w a.length 0 e hm;refine⟨.slice (some ⟨w.heap.size,0,none⟩) a.length (grownCap w a.length 0 e),Lib.bytesWorld w e ⟨a.toArray⟩,by simp[execOp,ho,h1,hrun];exact⟨rfl,rfl⟩,?_,?_⟩
  .
   have hbd:Bd M w:=I.bd _ _ hI;refine⟨_,grownCap w a.length 0 e,by rw[List.length_map],by rw[List.length_map];exact hcap,hcm,(fun h=>by cases h),fun i row hr=>?_⟩;rw[List.getElem?_map]at hr;cases hc:a[i]? with
   |none=>rw[hc]at hr;cases hr
   |some c=>
    rw[hc]at hr;simp only[Option.map_some,Option.some.injEq]at hr;subst hr;have Ey:i<a.length:=by rcases Nat.lt_or_ge i a.length with h|h;exact h;rw[List.getElem?_eq_none h]at hc;cases hc
    refine⟨rfl,_,rfl,fun j p hp=>?_⟩
    have hj:j=0:=by
     rcases Nat.eq_zero_or_pos j with h|h
     .exact h
     .rw[List.getElem?_eq_none CU]at hp;cases hp
    subst hj;simp only[List.getElem?_cons_zero,Option.some.injEq]at hp;subst hp;refine⟨.int .u8 c.toNat,?_,fun hmm=>?_,rfl,rfl⟩
    .
     rw[show Addr.add ⟨w.heap.size,0,none⟩ (i*1+0)=⟨w.heap.size,i,none⟩by unfold Addr.add;split<;>simp_all];rw[Lib.bytesWorld_cell w e ⟨a.toArray⟩ i (by rw[HF];exact Ey)];have:([]++a).getD i 0=c:=by simp[hc]
     simp[hc]
    .have:=hbd _ _ hmm;simp at this
  .exact Lib.bytesWorld_below w e ⟨a.toArray⟩
theorem OU{a:List UInt8}{c:UInt8}(h:a[k]? =some c):a[((k:Nat):Int).toNat]? =some c:=h
theorem Pm{t:TypeId}{y:Operand}{k:IntKind}{i:Int}{len sz:Nat}(ho:o.op= .index t x y)(ht:P.underlying t=some (.array len e))(he:D5 P e=true)(hz:Ar P e=some sz)(hx:VL E x (agg ps))(hy:VL E y (is (.int k i)))(h0:0<=i)(hl:i<len)(hq:(ps.drop (i.toNat*sz)).take sz=qs):Ac P I o E (agg qs):=
 Ac.same fun M w ac fO _=>by
  obtain⟨cs,h1,ho1,h2⟩:=hx.ev fO Ax;have h3:ac.eval y=_:=hy.ev fO Ax;refine⟨.agg (cs.toArray.extract (i.toNat*sz) (i.toNat*sz+sz)),?_,(cs.drop (i.toNat*sz)).take sz,?_,fun c hc=>ho1 c (List.mem_of_mem_drop (List.mem_of_mem_take hc)),by rw[←hq];exact(h2.drop _).take _⟩
  .simp[execOp,ho,h1,h3,Instr.index,asIntOf,run_underlying ht,h0,hl,B_ hz,part,Df he]
  .
   congr 1
   apply Array.toList_inj.1
   simp[List.extract,Nat.add_sub_cancel_left]
theorem OV{xs:List Value}(h:(agg (xs.map is)).h M w v):v= .agg xs.toArray:=by
 obtain⟨cs,rfl,ho,h2⟩:=h
 congr 1
 have:cs=xs:=by
  clear ho
  induction xs generalizing cs with
  |nil=>cases cs with
   |nil=>rfl
   |cons c cs=>exact h2.elim
  |cons x xs ih=>cases cs with
   |nil=>exact h2.elim
   |cons c cs=>rw[ih cs h2.2,show c=x from h2.1]
 rw[this]
theorem Pn{t u:TypeId}{y:Operand}{r:Bool}(xs ys:List Value)(ho:o.op= .binOp .eql t x y u)(hx:VL E x (agg (xs.map is)))(hy:VL E y (agg (ys.map is)))(hg:P.eqGuardType P.depth t=false)(hr:∀w,(Op.equal t (.agg xs.toArray) (.agg ys.toArray)).run P w= .ok r w):Ac P I o E (bool r):=
 Ac.same fun M w ac he _=>by
  have h1:=OV (hx.ev he Ax);have h2:=OV (hy.ev he Ax);exact⟨_,by simp[execOp,ho,h1,h2,eqGuard,hg,binOp,hr w],rfl⟩
theorem Wi{t u:TypeId}{y:Operand}{r:Bool}(xs ys:List Value)(ho:o.op= .binOp .neq t x y u)(hx:VL E x (agg (xs.map is)))(hy:VL E y (agg (ys.map is)))(hg:P.eqGuardType P.depth t=false)(hr:∀w,(Op.equal t (.agg xs.toArray) (.agg ys.toArray)).run P w= .ok r w):Ac P I o E (bool (!r)):=
 Ac.same fun M w ac he _=>by
  have h1:=OV (hx.ev he Ax);have h2:=OV (hy.ev he Ax);exact⟨_,by simp[execOp,ho,h1,h2,eqGuard,hg,binOp,hr w],rfl⟩
theorem eqS{P:Program}{t:TypeId}{fs:Array Field}{xs ys:Array Value}{r:Bool}(ht:P.underlying t=some (.struct fs))(hp:P.stoodInHeld t=false)(h:(Op.eqFields d xs ys fs.toList).run P w= .ok r w):(Op.equalIn (d+1) t (.agg xs) (.agg ys)).run P w= .ok r w:=by
 have hf:P.fieldsOf t=fs:=by unfold Program.fieldsOf;rw[ht]
 rw[run_equalIn_struct w d t xs ys (by rw[hf];exact ht) hp,hf];exact h
theorem OW{P:Program}{xs ys:Array Value}:(Op.eqFields d xs ys []).run P w= .ok true w:=by simp[Op.eqFields]
theorem GF {P : Program} {xs ys : Array Value} {f : Field} {fs : List Field} {vx vy : Value} {r q : Bool} (hn : f.name ≠ "_") (ha : (part f.type xs f.offset).run P w = .ok vx w) (hb : (part f.type ys f.offset).run P w = .ok vy w) (he : (Op.equalIn d f.type vx vy).run P w = .ok r w) (hr : (Op.eqFields d xs ys fs).run P w = .ok q w) : (Op.eqFields d xs ys (f :: fs)).run P w = .ok (r && q) w := by
 simp only[Op.eqFields,hn,ne_eq,not_false_eq_true,if_true,Sem.run_bind,ha,hb,he,Result.andThen_ok];cases r
 .simp
 .simpa using hr
theorem Cr{P:Program}{t:TypeId}{cs:Array Value}{off:Nat}(h1:DN P t=true)(hv:cs[off]? =some v):(part t cs off).run P w= .ok v w:=by
 simp[part,De h1,hv]
theorem Ht{P:Program}{t:TypeId}{k:IntKind}{a b:Int}(h:P.underlying t=some (.int k)):(Op.equalIn (d+1) t (.int k a) (.int k b)).run P w= .ok (decide (a=b)) w:=by
 rw[run_equalIn_int w d t k k a b h];rfl
end
section
variable{P:Program}{L:Lg P}{E:Env}{I:B3}{o:Oper}
theorem Lz{sz:Nat}{A:Option Addr}{cap lo hi:Nat}(h:(slice sz rows).h M w (.slice A rows.length cap))(h1:lo<=hi)(h2:hi<=rows.length):
  (slice sz ((rows.take hi).drop lo)).h M w (.slice (if cap=lo then A else A.map (·.add (lo*sz))) (hi-lo) (cap-lo)):=by
 obtain⟨A',cap',hv,hc,hm,hA,hr⟩:=h
 injection hv with e1 _ e3
 subst e1;subst e3;have hlen:((rows.take hi).drop lo).length=hi-lo:=by rw[List.length_drop,List.length_take];omega
 refine⟨_,cap-lo,by rw[hlen],by rw[hlen];omega,by omega,fun h=>?_,fun i row hi'=>?_⟩
 .
  split at h
  .have:=hA h;omega
  .
   cases hA2:A with
   |none=>have:=hA hA2;omega
   |some a=>rw[hA2]at h;cases h
 .
  rw[List.getElem?_drop,List.getElem?_take]at hi'
  split at hi'
  .
   rename_i hlt
   obtain⟨h3,ad,h4,h5⟩:=hr _ row hi';subst h4;rw[if_neg AA];refine⟨h3,_,rfl,fun j p hp=>?_⟩;obtain⟨u,h6,h7,h8,h9⟩:=h5 j p hp;refine⟨u,?_,?_,h8,h9⟩
   .rw[add_add,show lo*sz+(i*sz+j)=(lo+i)*sz+j by rw[Nat.add_mul];omega];exact h6
   .rw[F4,I3,show ad.off+lo*sz+(i*sz+j)=ad.off+((lo+i)*sz+j)by rw[Nat.add_mul];omega];exact h7
  .cases hi'
theorem EX{t:TypeId}{y:Operand}{k:IntKind}{h:Int}{sz:Nat}(ho:o.op= .slice t x none (some y) none)(ht:P.underlying t=some (.slice e))(hz:Ar P e=some sz)(hx:VL E x (slice sz rows))(hy:VL E y (is (.int k h)))(h0:0<=h)(hl:h<=rows.length):
  Ac P I o E (slice sz (rows.take h.toNat)):=
 Ac.same fun M w a he _=>by
  have h1:=hx.ev he Ax;have h3:a.eval y=_:=hy.ev he Ax;obtain⟨A,cap,hv,hc,hm,hA,hr⟩:=h1;have h2:=Lz (lo:=0) (hi:=h.toNat) (show(slice sz rows).h M w (.slice A rows.length cap)from⟨A,cap,rfl,hc,hm,hA,hr⟩) AA AA;refine⟨_,?_,by simpa using h2⟩;have hb:h<=(cap:Int):=by omega
  simp[execOp,ho,hv,h3,Instr.sliceAt,Instr.slice,run_underlying ht,Instr.sliceBounds,Instr.sliceBound,asIntOf,h0,hb,B_ hz]
theorem Gg{t:TypeId}{y:Operand}{k:IntKind}{l:Int}{sz:Nat}(ho:o.op= .slice t x (some y) none none)(ht:P.underlying t=some (.slice e))(hz:Ar P e=some sz)(hx:VL E x (slice sz rows))(hy:VL E y (is (.int k l)))(h0:0<=l)(hl:l<=rows.length):
  Ac P I o E (slice sz (rows.drop l.toNat)):=
 Ac.same fun M w a he _=>by
  have h1:=hx.ev he Ax;have h3:a.eval y=_:=hy.ev he Ax;obtain⟨A,cap,hv,hc,hm,hA,hr⟩:=h1;have h2:=Lz (lo:=l.toNat) (hi:=rows.length) (show(slice sz rows).h M w (.slice A rows.length cap)from⟨A,cap,rfl,hc,hm,hA,hr⟩) AA (Nat.le_refl _);rw[List.take_length]at h2;refine⟨_,?_,h2⟩;simp[execOp,ho,hv,h3,Instr.sliceAt,Instr.slice,run_underlying ht,Instr.sliceBounds,Instr.sliceBound,asIntOf,h0,hl,B_ hz]
end
abbrev JD:Pr:=is (.tuple #[])
section
variable{P:Program}{L:Lg P}{n:Fm}{fz:Nat}{E:Env}{M0:Av}{w0:World}{S:Nat->Prop}{rs:List At}{o:Oper}{g:Func}{M1:Av}{w1:World}
theorem results0{g:Func}(hr:g.results= #[]):(results g a.tmps).run P w= .ok (.tuple #[]) w:=by
 rw[Gd,hr];simp[Sem.run_bind]
theorem Fin.Zm(hr:g.results= #[]):Fin ⟨fz,[]⟩ E (Hp M0 w0 Hj rs) (bodyPost P g (OB M0 w0 JD)) .normal:=by
 rintro a w ⟨M,_,hd,he,hi⟩;obtain⟨h1,h2⟩:=Cy.GV M0 w0 M w hi;exact⟨hd,_,results0 hr,_,rfl,rfl,h2⟩
theorem Fin.mD(hr:g.results= #[]):Fin ⟨fz,[]⟩ E (Hp M0 w0 Hj rs) (bodyPost P g (OB M0 w0 JD)) .ret:=by
 rintro a w ⟨M,_,hd,he,hi⟩;obtain⟨h1,h2⟩:=Cy.GV M0 w0 M w hi;exact⟨hd,_,results0 hr,_,rfl,rfl,h2⟩
def Sq(E:Env)(v0:Value)(q0:Pr):List Operand->List Pr->Prop
 |[],[]=>True
 |x::xs,p::ps=>(VL E x p\/(VL E x (is v0)/\Pr.le (An v0 q0) p))/\Sq E v0 q0 xs ps
 |_,_=>False
theorem Sq.ev{M M':Av}{w:World}{a:Act}{v0:Value}{q0:Pr}(he:CI M w E o a)(hx:Ext M w M' w)(h0:q0.h M' w v0):∀{xs:List Operand} {ps:List Pr},(∀x∈xs,x∈o.op.operands.toList)->Sq E v0 q0 xs ps->HL M' w ps (xs.map a.eval)
 |[],[],_,_=>trivial
 |[],_::_,_,h=>h.elim
 |_::_,[],_,h=>h.elim
 |x::xs,p::ps,hm,h=>by
  refine⟨?_,Sq.ev he hx h0 (fun y hy=>hm y (List.mem_cons_of_mem _ hy)) h.2⟩;rcases h.1 with h1|⟨h1,h2⟩
  .exact p.st _ _ _ _ _ hx (h1.ev he (hm x AO))
  .
   have h3:a.eval x=v0:=h1.ev he (hm x AO);exact h2 _ _ _ ⟨h3,by rw[h3];exact h0⟩
class L1(p:Pr):Prop where
 free:∀M M' w v,p.h M w v->p.h M' w v
instance qA (u:Value):L1 (is u):=⟨fun _ _ _ _ h=>h⟩
instance jJ (m:Nat):L1 (lens m):=⟨fun _ _ _ _ h=>h⟩
end
def Qg(es:List (Value×Value)):Array MapEntry:=(es.zipIdx.map fun p=>({ key:=p.1.1,val:=p.1.2,born:=p.2 }:MapEntry)).toArray
theorem L2(es:List (Value×Value))(i:Nat):(Qg es)[i]? =(es[i]?).map fun p=>{ key:=p.1,val:=p.2,born:=i }:=by
 simp[Qg,List.getElem?_zipIdx];cases es[i]? <;>simp
structure sK(P:Program)(T kt et:TypeId){κ:Type}[DecidableEq κ](enc:κ->Value):Prop where
 und:P.underlying T=some (.map kt et)
 zero:∀w,(zeroValue et).run P w= .ok (.int .i64 0) w
 eq:∀a b w,(Op.equal kt (enc a) (enc b)).run P w= .ok (decide (a=b)) w
 chk:∀e a w,(Instr.checkKey e 10000 kt (enc a)).run P w= .ok () w
 ur:∃d,P.underlying kt=some d/\((∀a b,Instr.sameNow d (enc a) (enc b)=none)\/∀a b,Instr.sameNow d (enc a) (enc b)=some (decide (a=b)))
 bits:∀a,Instr.sameBits 10000 (enc a) (enc a)=true
section
variable{P:Program}{L:Lg P}{n:Fm}{fz:Nat}{E:Env}{M0:Av}{w0:World}{S:Nat->Prop}{rs:List At}{o:Oper}{κ:Type}[DecidableEq κ]{enc:κ->Value}
abbrev L3(enc:κ->Value)(es:List (κ×Int)):List (Value×Value):=es.map fun p=>(enc p.1,.int .i64 p.2)
def Wj(enc:κ->Value)(b:Nat)(es:List (κ×Int)):At where
 blk:=some b
 new:=true
 h M w:=(∀o,M b o)/\w.heap[b]? =some (.map (Qg (L3 enc es)) es.length)
 st M w M' w' he hk h:=by
  obtain⟨h1,h2⟩:=hk b rfl;exact⟨fun o=>h2 o (h.1 o),h1.trans h.2⟩
theorem A0.mE{obj:Obj}{r:At}(h:A0 M0 w0 S rs M w)(hb:r.blk=some w.heap.size)(hn:r.new=true)(hr:r.h (fun b o=>M b o\/b=w.heap.size) (w.alloc obj)):
  A0 M0 w0 S (r::rs) (fun b o=>M b o\/b=w.heap.size) (w.alloc obj)/\Ext M w (fun b o=>M b o\/b=w.heap.size) (w.alloc obj):=by
 have mC:Below w.heap.size w (w.alloc obj):=(Below.refl _ _).alloc (Nat.le_refl _) _;have hsz:(w.alloc obj).heap.size=w.heap.size+1:=by simp
 have he:Ext M w (fun b o=>M b o\/b=w.heap.size) (w.alloc obj):=by
  have h2:=Ext.below (M:=M) mC;refine⟨h2.size,fun a v hc hm=>⟨fun hx=>?_,(h2.keep a v hc hm).2⟩,fun b o ho hp hm=>⟨fun hx=>?_,(h2.obj b o ho hp hm).2⟩⟩
  .
   rcases hx with hx|hx
   .exact hm hx
   .exact EA
  .grind
 have hI:=(Hp M0 w0 S rs).st _ _ _ mC h;refine⟨⟨hI.m0,fun b o hm=> .inl (hI.m b o hm),hI.os,hI.tape,hI.output,hI.size,hI.block,fun b o hm=>?_,fun r' hr'=>?_,?_⟩,he⟩
 .
  rcases hm with hm|hm
  .exact hI.bd b o hm
  .omega
 .
  rcases List.mem_cons.1 hr' with rfl|hr'
  .
   refine⟨hr,fun b hbk=>?_⟩;rw[hb]at hbk
   injection hbk with hbk
   subst hbk;exact⟨by omega,by rw[hn];simpa using h.size⟩
  .
   obtain⟨h3,h4⟩:=h.hold r' hr';exact⟨r'.st _ _ _ _ he (fun b hbk=>⟨mC.block b (h4 b hbk).1,fun _ x=> .inl x⟩) h3,fun b hbk=>⟨by have:=(h4 b hbk).1;omega,(h4 b hbk).2⟩⟩
 .
  refine List.Pairwise.cons (fun r' hr' b hbk Dw=>?_) h.nd;rw[hb]at hbk
  injection hbk with hbk
  have:=((h.hold r' hr').2 b Dw).1;omega
def Km(w:World)(b:Nat)(o:Obj):World:={ w with heap:=w.heap.setIfInBounds b o }
theorem Zn{b:Nat}{o:Obj}(h:b<w.heap.size):(Km w b o).heap[b]? =some o:=by
 show(w.heap.setIfInBounds b o)[b]? =_;rw[Array.getElem?_setIfInBounds];simp[h]
theorem Ib{b:Nat}{o:Obj}(h:k≠b):(Km w b o).heap[k]? =w.heap[k]? :=by
 show(w.heap.setIfInBounds b o)[k]? =_;rw[Array.getElem?_setIfInBounds,if_neg (fun e=>h e.symm)]
theorem A0.sL{obj:Obj}{r r':At}{b:Nat}(h:A0 M0 w0 S rs M w)(hj:rs[j]? =some r)(hb:r.blk=some b)(hb':r'.blk=some b)(hn:r.new=true)(hn':r'.new=true)(hM:∀o,M b o)(hr:r'.h M (Km w b obj)):
  A0 M0 w0 S (rs.set j r') M (Km w b obj)/\Ext M w M (Km w b obj):=by
 have hlt:=((h.hold r (List.mem_of_getElem? hj)).2 b hb).1;have hsz:(Km w b obj).heap.size=w.heap.size:=by simp[Km]
 have he:Ext M w M (Km w b obj):=by
  refine⟨by omega,fun a v hc hm=>⟨hm,?_⟩,fun k o ho hp hm=>⟨hm,?_⟩⟩
  .rw[World.cell?_of_block (w:=w) (Ib (fun e=>hm (by rw[e];exact hM _)))];exact hc
  .rw[Ib (fun e=>hm (by rw[e];exact hM _))];exact ho
 refine⟨h.replace hj he rfl rfl rfl (fun k _ hk=>Ib (fun e=>hk (by rw[hb,e]))) hn (fun _ _ hm _=>hm) (fun k o hm=>by rw[hsz];exact h.bd k o hm) hr hn' (fun k hk=>?_),he⟩;rw[hb']at hk
 injection hk with hk
 subst hk;exact⟨by omega,.inl hb⟩
variable{Q:Exit->Act->World->Prop}{ops:Array Oper}{r:List Oper}
omit [DecidableEq κ] in
theorem TO.mF(enc:κ->Value)(hg:o.guard=none)(hd:o.dst=some d)(hn:d<n)(ho:o.op= .makeMap T none)(k:∀b,TO P n ops r ((d,is (.map (some b)))::E) (Hp M0 w0 S (Wj enc b []::rs)) Q):TO P n ops (o::r) E (Hp M0 w0 S rs) Q:=
 TO.U4 hg fun K M w a hsz hdf he hI hK=>by
  refine TO.val (v:= .map (some w.heap.size)) (w':=w.alloc (.map #[] 0)) ?_ ?_
  .simp[execOp,ho,Instr.makeMap]
  .
   obtain⟨h2,h3⟩:=A0.mE (obj:= .map #[] 0) (r:=Wj enc w.heap.size []) hI rfl rfl ⟨fun _=> .inr rfl,by rw[heap_alloc_new];rfl⟩;refine hK _ _ _ _ (k w.heap.size) ⟨_,by rw[Bo];exact hsz,by rw[put_defers];exact hdf,?_,h2⟩;intro s p hp;simp only[List.lookup]at hp
   by_cases hs:s=d
   .exact Nw
   .
    rw[show(s==d)=false by simpa using hs]at hp;rw[hd,Bh hs];exact p.st _ _ _ _ _ h3 (he s p hp)
def NI(it b m:Nat)(seen:List Nat):At where
 blk:=some it
 new:=true
 h M w:=(∀o,M it o)/\w.heap[it]? =some (.mapIter (some b) m seen.toArray m)
 st M w M' w' he hk h:=by
  obtain⟨h1,h2⟩:=hk it rfl;exact⟨fun o=>h2 o (h.1 o),h1.trans h.2⟩
theorem TO.range{b:Nat}{kt et:TypeId}{es:List (κ×Int)}(hT:sK P T kt et enc)(hg:o.guard=none)(hd:o.dst=some d)(hn:d<n)(ho:o.op= .range T x)(hx:VL E x (is (.map (some b))))(hj:rs[j]? =some (Wj enc b es))(k:∀it,TO P n ops r ((d,ptr it 0)::E) (Hp M0 w0 S (NI it b es.length []::rs)) Q):TO P n ops (o::r) E (Hp M0 w0 S rs) Q:=
 TO.U4 hg fun K M w a hsz hdf he hI hK=>by
  have h1:a.eval x=_:=hx.ev (o:=o) (CB he) Ax;obtain⟨_,hh⟩:=(A0.hold hI _ (List.mem_of_getElem? hj)).1;refine TO.val (v:= .pointer (some ⟨w.heap.size,0,none⟩)) (w':=w.alloc (.mapIter (some b) es.length #[] es.length)) ?_ ?_
  .simp[execOp,ho,h1,run_range_map w T kt et b _ _ hT.und hh]
  .
   obtain⟨h2,h3⟩:=A0.mE (obj:= .mapIter (some b) es.length #[] es.length) (r:=NI w.heap.size b es.length []) hI rfl rfl ⟨fun _=> .inr rfl,by rw[heap_alloc_new]⟩;refine hK _ _ _ _ (k w.heap.size) ⟨_,by rw[Bo];exact hsz,by rw[put_defers];exact hdf,?_,h2⟩;intro s p hp;simp only[List.lookup]at hp
   by_cases hs:s=d
   .exact Nw
   .
    rw[show(s==d)=false by simpa using hs]at hp;rw[hd,Bh hs];exact p.st _ _ _ _ _ h3 (he s p hp)
theorem mem_left{es:List (Value×Value)}{seen:List Nat}{e:MapEntry}:e∈(leftOf (Qg es) seen.toArray).toList↔∃q p,es[q]? =some p/\q∉seen/\e={ key:=p.1,val:=p.2,born:=q }:=by
 unfold leftOf;rw[Array.toList_filter,List.mem_filter];constructor
 .
  rintro⟨h1,h2⟩;obtain⟨q,hq⟩:=List.mem_iff_getElem?.1 h1;rw[Array.getElem?_toList,L2]at hq;cases hp:es[q]? with
  |none=>rw[hp]at hq;cases hq
  |some p=>
   rw[hp]at hq;simp only[Option.map_some,Option.some.injEq]at hq;subst hq;exact⟨q,p,hp,by simpa using h2,rfl⟩
 .
  rintro⟨q,p,hp,hq,rfl⟩;exact⟨List.mem_iff_getElem?.2 ⟨q,by rw[Array.getElem?_toList,L2,hp];rfl⟩,by simpa using hq⟩
theorem OX(ty:TypeId){it b:Nat}{seen:List Nat}{es:List (Value×Value)}(hm:es.length=m)(hit:w.heap[it]? =some (.mapIter (some b) m seen.toArray m))(hb:w.heap[b]? =some (.map (Qg es) m)):
  ((∀q,q<m->q∈seen)/\(Instr.next (.pointer (some ⟨it,0,none⟩)) false ty).run P w= .ok (.tuple #[.bool false]) w)\/
  ∃q p,es[q]? =some p/\q∉seen/\∃w1,(w1=w\/w1=w.drew)/\(Instr.next (.pointer (some ⟨it,0,none⟩)) false ty).run P w= .ok (.tuple #[.bool true,p.1,p.2]) (Km w1 it (.mapIter (some b) m (seen++[q]).toArray m)):=by
 have hold:∀x∈(Qg es).toList,x.born<m:=by
  intro x hx;obtain⟨q,hq⟩:=List.mem_iff_getElem?.1 hx;rw[Array.getElem?_toList,L2]at hq;cases hp:es[q]? with
  |none=>rw[hp]at hq;cases hq
  |some p=>
   rw[hp]at hq;simp only[Option.map_some,Option.some.injEq]at hq;subst hq;show q<m;rcases Nat.lt_or_ge q es.length with h|h
   .omega
   .grind
 simp only[Instr.next,getObj,Sem.run_bind,Sem.run,hit,hb,Result.andThen,next_test_false seen.toArray (Qg es) m m hold (Nat.le_refl _),Bool.false_eq_true,if_false];have hleft:(Qg es).filter (fun e=> !seen.toArray.contains e.born)=leftOf (Qg es) seen.toArray:=rfl;rw[hleft];have hmem:∀x∈(leftOf (Qg es) seen.toArray).toList,x.born<m:=fun x hx=>by grind
 have hml:∀e,e∈(leftOf (Qg es) seen.toArray).toList↔∃q p,es[q]? =some p/\q∉seen/\e={ key:=p.1,val:=p.2,born:=q }:=fun e=>mem_left
 generalize leftOf (Qg es) seen.toArray=L at hmem hml ⊢
 have e1:L.filter (fun x=>decide (x.born<m))=L:=Array.filter_eq_self.2 (fun x hx=>by simpa using hmem x Hf)
 have e2:L.filter (fun x=>decide (x.born≥m))= #[]:=by
  rw[Array.filter_eq_empty_iff];intro x hx;have:=hmem x Hf;simp;omega
 simp only[e1,e2,Array.append_empty]
 by_cases h0:L.size=0
 .
  left;have hL:L= #[]:=Array.eq_empty_of_size_eq_zero h0;refine⟨fun q hq=>?_,?_⟩
  .
   rcases Classical.em (q∈seen)with h|h
   .exact h
   .
    have:=(hml { key:=(es[q]'(by omega)).1,val:=(es[q]'(by omega)).2,born:=q }).2 ⟨q,es[q]'(by omega),List.getElem?_eq_getElem AA,h,rfl⟩;rw[hL]at this;simp at this
  .
   subst hL;simp[choose,Sem.run,Question.forced]
 .
  right;have hne:L.isEmpty=false:=by simp[Array.isEmpty,h0]
  simp only[hne,Bool.false_eq_true,if_false,Array.empty_append,Array.size_map]
  have hch:∃(j:Nat) (w1:World),j<L.size/\(w1=w\/w1=w.drew)/\(choose (Question.mapNext L.size)).run P w= .ok j w1:=by
   by_cases hf:L.size<=1
   .exact⟨0,w,by omega,.inl rfl,by simp[choose,Sem.run,Question.forced,hf]⟩
   .
    exact⟨_,w.drew,Nat.mod_lt _ AA,.inr rfl,by
     simp only[choose,Sem.run,Question.forced,decide_eq_true_eq,hf,if_false,Question.cut]
     rfl⟩
  obtain⟨j,w1,hj,hal,hrun⟩:=hch;obtain⟨q,p,hq1,Qe,Wk⟩:=(hml L[j]).1 AO;refine⟨q,p,hq1,Qe,w1,hal,?_⟩;have hw1:w1.heap=w.heap:=by rcases hal with rfl|rfl<;>rfl
  have I4:∀(o':Obj),(setObj it o').run P w1= .ok () (Km w1 it o'):=fun o'=>by
   have sM:w1.heap[it]? =some (.mapIter (some b) m seen.toArray m):=by rw[hw1];exact hit
   simp only[setObj,Sem.run,sM];rfl
  simp only[hrun,Array.getElem?_map,Array.getElem?_eq_getElem hj,Option.map_some,Sem.run_bind,I4,Result.andThen];rw[Wk];simp
omit [DecidableEq κ] in
theorem TO.next{it b:Nat}{es:List (κ×Int)}{seen:List Nat}(hg:o.guard=none)(hd:o.dst=some d)(hn:d<n)(ho:o.op= .next x false)(hx:VL E x (ptr it 0))(hi:rs[i]? =some (NI it b es.length seen))(hj:rs[j]? =some (Wj enc b es))(k1:(∀q,q<es.length->q∈seen)->TO P n ops r ((d,D8 [bool false])::E) (Hp M0 w0 S rs) Q)(k2:∀q p,es[q]? =some p->q∉seen->TO P n ops r ((d,D8 [bool true,is (enc p.1),int p.2])::E) (Hp M0 w0 S (rs.set i (NI it b es.length (seen++[q])))) Q):TO P n ops (o::r) E (Hp M0 w0 S rs) Q:=
 TO.U4 hg fun K M w a hsz hdf he hI hK=>by
  have h1:a.eval x= .pointer (some ⟨it,0,none⟩):=hx.ev (o:=o) (CB he) Ax;obtain⟨⟨hMi,hit⟩,hbi⟩:=A0.hold hI _ (List.mem_of_getElem? hi);obtain⟨_,hh⟩:=(A0.hold hI _ (List.mem_of_getElem? hj)).1;have hlt:=(hbi it rfl).1;rcases OX (P:=P) o.type (es:=L3 enc es) (by simp[L3]) hit hh with⟨h2,h3⟩|⟨q,p,h2,h3,w1,h4,h5⟩
  .
   refine TO.val (v:= .tuple #[.bool false]) (w':=w) ?_ ?_
   .simp[execOp,ho,h1,h3]
   .
    refine hK _ _ _ _ (k1 h2) ⟨M,by rw[Bo];exact hsz,by rw[put_defers];exact hdf,?_,hI⟩;intro s p hp;simp only[List.lookup]at hp
    by_cases hs:s=d
    .subst hs;simp at hp;subst hp;rw[hd,Bq Ft];exact⟨_,rfl,rfl,trivial⟩
    .
     rw[show(s==d)=false by simpa using hs]at hp;rw[hd,Bh hs];exact he s p hp
  .
   have Zo:∃p',es[q]? =some p'/\p=(enc p'.1,.int .i64 p'.2):=by
    simp only[L3,List.getElem?_map]at h2;cases h:es[q]? with
    |none=>rw[h]at h2;cases h2
    |some p'=>rw[h]at h2;simp at h2;exact⟨p',rfl,h2.symm⟩
   obtain⟨p',hp',rfl⟩:=Zo;refine TO.val (v:= .tuple #[.bool true,enc p'.1,.int .i64 p'.2]) (w':=Km w1 it (.mapIter (some b) es.length (seen++[q]).toArray es.length)) ?_ ?_
   .simp[execOp,ho,h1,h5]
   .
    have fP:Below w.heap.size w w1:=by
     rcases h4 with rfl|rfl
     .exact Below.refl _ _
     .exact(Below.refl _ _).drew
    have hI1:=(Hp M0 w0 S rs).st _ _ _ fP hI;obtain⟨h6,h7⟩:=A0.sL (obj:= .mapIter (some b) es.length (seen++[q]).toArray es.length) (r':=NI it b es.length (seen++[q])) hI1 hi rfl rfl rfl rfl hMi ⟨hMi,Zn (Nat.lt_of_lt_of_le hlt fP.size)⟩;refine hK _ _ _ _ (k2 q p' hp' h3) ⟨M,by rw[Bo];exact hsz,by rw[put_defers];exact hdf,?_,h6⟩;intro s p hp;simp only[List.lookup]at hp
    by_cases hs:s=d
    .subst hs;simp at hp;subst hp;rw[hd,Bq Ft];exact⟨_,rfl,rfl,rfl,rfl,trivial⟩
    .
     rw[show(s==d)=false by simpa using hs]at hp;rw[hd,Bh hs];exact p.st _ _ _ _ _ ((Ext.below fP).trans h7) (he s p hp)
omit [DecidableEq κ] in
theorem TO.entry{it b q:Nat}{es:List (κ×Int)}{seen:List Nat}{p:κ×Int}(hg:o.guard=none)(hd:o.dst=some d)(hn:d<n)(ho:o.op= .entry x)(hx:VL E x (ptr it 0))(hi:rs[i]? =some (NI it b es.length (seen++[q])))(hj:rs[j]? =some (Wj enc b es))(hq:es[q]? =some p)(k:TO P n ops r ((d,D8 [is (enc p.1),int p.2])::E) (Hp M0 w0 S rs) Q):TO P n ops (o::r) E (Hp M0 w0 S rs) Q:=
 TO.U4 hg fun K M w a hsz hdf he hI hK=>by
  have h1:a.eval x= .pointer (some ⟨it,0,none⟩):=hx.ev (o:=o) (CB he) Ax;obtain⟨⟨_,hit⟩,_⟩:=A0.hold hI _ (List.mem_of_getElem? hi);obtain⟨_,hh⟩:=(A0.hold hI _ (List.mem_of_getElem? hj)).1;have hat:(Qg (L3 enc es))[q]? =some { key:=enc p.1,val:= .int .i64 p.2,born:=q }:=by rw[L2];simp[L3,hq]
  have hnd:((Qg (L3 enc es)).toList.map (·.born)).Nodup:=by
   have:(Qg (L3 enc es)).toList.map (·.born)=List.range (L3 enc es).length:=by
    apply List.ext_getElem?
    intro k;rw[List.getElem?_map,Array.getElem?_toList,L2]
    by_cases hk:k<(L3 enc es).length
    .rw[List.getElem?_range hk,List.getElem?_eq_getElem hk];rfl
    .rw[List.getElem?_eq_none (Nat.le_of_not_lt hk),List.getElem?_eq_none (by simp at hk ⊢;omega)];rfl
   rw[this];exact List.nodup_range
  have hfind:(Qg (L3 enc es)).find? (fun e=>e.born==q)=some { key:=enc p.1,val:= .int .i64 p.2,born:=q }:=by
   rw[←Array.find?_toList];exact find_born { key:=enc p.1,val:= .int .i64 p.2,born:=q } _ hnd (List.mem_iff_getElem?.2 ⟨q,by rw[Array.getElem?_toList];exact hat⟩)
  refine TO.val (v:= .tuple #[enc p.1,.int .i64 p.2]) (w':=w) ?_ ?_
  .
   have:(Instr.entry (.pointer (some ⟨it,0,none⟩))).run P w= .ok (.tuple #[enc p.1,.int .i64 p.2]) w:=by
    have hb:(seen++[q]).toArray.back? =some q:=by simp
    simp only[Instr.entry,getObj,Sem.run_bind,Sem.run,hit,hh,Result.andThen,hb,bne_self_eq_false,Bool.false_eq_true,if_false,hfind];rfl
   simp[execOp,ho,h1,this]
  .
   refine hK _ _ _ _ k ⟨M,by rw[Bo];exact hsz,by rw[put_defers];exact hdf,?_,hI⟩;intro s p hp;simp only[List.lookup]at hp
   by_cases hs:s=d
   .subst hs;simp at hp;subst hp;rw[hd,Bq Ft];exact⟨_,rfl,rfl,rfl,trivial⟩
   .
    rw[show(s==d)=false by simpa using hs]at hp;rw[hd,Bh hs];exact he s p hp
end
section
variable{P:Program}{L:Lg P}
end
section
variable{P:Program}{L:Lg P}{n:Fm}{fz:Nat}{E:Env}{M0:Av}{w0:World}{S:Nat->Prop}{rs:List At}{o:Oper}
theorem Kn(w:World)(A:Option Addr)(t ty e:TypeId)(i:TypeInfo)(z:Value)(ht:P.underlying t=some (.slice e))(hi:P.info? e=some i)(hz:i.zero=some z)
  (a:Addr) (n c:Nat) (news:List Value) (hl:news.length=n*i.size) (hnews:∀j v,news[j]? =some v->w.cell? (a.add j)=some v)
  (h0:0<n) (h63:(n:Int)<=9223372036854775807) (h48:n*i.bytes<=281474976710656):
  (Builtin.append_ #[t, t] ty #[.slice A 0 0, .slice (some a) n c]).run P w =
   .ok (.slice (some ⟨w.heap.size,0,none⟩) n (grownCap w n 0 e)) (w.drew.alloc (.cells (news.toArray++Builtin.zeroCells z.cells (grownCap w n 0 e-n)) e)):=by
 cases A with
 |none=>exact run_append_nil (w:=w) t ty e i z ht hi hz a n c news hl hnews h0 h63 h48
 |some b=>
  have:=run_append_grow (w:=w) t ty e i z ht hi hz b 0 0 [] AO AO a n c news hl hnews AA (by simpa using h63) (by rw[Nat.zero_add,nextslicecap_zero h0];exact h48)
  simpa using this
theorem Wl{t ty:TypeId}{sz bytes:Nat}{u:Value}(A:Option Addr)(ht:P.underlying t=some (.slice e))(hz:Ar P e=some sz)(hby:Bz P e=some bytes)(Dc:A_ P e=some zs)(hzl:zs.length=sz)(hone:zs.all (·.oneCell')=true)(hsz:0<sz)(h:A0 M0 w0 S rs M w)(hj:rs[j]? =some Bj)(hu:(slice sz rows).h M w u)(hpos:0<rows.length)(FA:rows.length<=maxLen)(hfit:rows.length*bytes<=140737488355328):
  ∃v' w' M',(Builtin.append_ #[t,t] ty #[.slice A 0 0,u]).run P w= .ok v' w'/\(lens rows.length).h M' w' v'/\Ext M w M' w'/\A0 M0 w0 S (rs.set j (Cq e sz rows v')) M' w':=by
 unfold Ar at hz;unfold Bz at hby;unfold A_ at Dc;cases hi:P.info? e with
 |none=>rw[hi]at hz;cases hz
 |some i=>
  rw[hi]at hz hby Dc;simp only[Option.map_some,Option.some.injEq,Option.map_eq_some_iff]at hz hby Dc;obtain⟨z,SZ,Dc⟩:=Dc;have V5:z.cells.size=sz:=by rw[←hzl,←Dc];simp
  obtain⟨A',c',rfl,U5,RC,YY,FE⟩:=hu;have O3:(slice sz rows).h M w (.slice A' rows.length c'):=⟨A',c',rfl,U5,RC,YY,FE⟩
  obtain⟨M_,rfl⟩:∃M_,A'=some M_:=by
   obtain⟨_,b,hb,_⟩:=FE 0 _ (List.getElem?_eq_getElem hpos);exact⟨b,hb⟩
  obtain⟨news,hfl,hcell⟩:=EU hsz O3;have hrun:=Kn (P:=P) w A t ty e i z ht hi SZ M_ rows.length c' news (by rw[hz];exact hfl.1) (fun k u hk=>(hcell k u hk).1) hpos N5 (by rw[hby];omega)
  generalize hcap:grownCap w rows.length 0 e=cap at hrun
  have hge:rows.length<=cap:=by rw[←hcap];exact grownCap_ge _ _ _ _
  have hle:cap<=maxLen:=by rw[←hcap];exact grownCap_le_maxLen _ _ _ _ FA
  generalize Md:Builtin.zeroCells z.cells (cap-rows.length)=zc at hrun
  have hzs:zc.size=(cap-rows.length)*sz:=by rw[←Md,size_zeroCells,V5]
  have mB:∀c∈zc.toList,c.oneCell'=true:=by rw[←Md];exact Fz Dc hone
  have hb:Below w.heap.size w (w.drew.alloc (.cells (news.toArray++zc) e)):=((Below.refl _ _).drew).alloc (Nat.le_refl _) _;have h2:=Ext.below (M:=M) hb
  have ED:Ext M w (fun b o=>M b o\/b=w.heap.size) (w.drew.alloc (.cells (news.toArray++zc) e)):=by
   refine⟨h2.size,fun a v hc hm=>⟨fun hx=>?_,(h2.keep a v hc hm).2⟩,fun b o ho hp hm=>⟨fun hx=>?_,(h2.obj b o ho hp hm).2⟩⟩
   .
    rcases hx with hx|hx
    .exact hm hx
    .exact EA
   .grind
  have hs1:(w.drew.alloc (.cells (news.toArray++zc) e)).heap.size=w.heap.size+1:=by simp
  refine⟨_,_,fun b o=>M b o\/b=w.heap.size,hrun,⟨_,_,rfl⟩,ED,?_⟩;refine h.replace hj ED hb.os hb.tape hb.output (fun k hk _=>hb.block k hk) rfl (fun b o hm _=> .inl hm) (fun b o hx=>?_) ?_ rfl (fun b hbk=>?_)
  .
   rcases hx with hx|hx
   .exact I2
   .omega
  .
   refine⟨w.heap.size,cap,zc.toList,rfl,hge,hle,by simpa using hzs,fun o=> .inr rfl,news++zc.toList,?_,?_,?_⟩
   .
    have hh:(w.drew.alloc (.cells (news.toArray++zc) e)).heap[w.heap.size]? =some (.cells (news.toArray++zc) e (0,0)):=heap_alloc_new w.drew _;rw[hh];simp
   .exact((hfl.st ED).hl hsz).app (Le _ _ _)
   .
    intro c hc;rcases List.mem_append.1 hc with hc|hc
    .exact hfl.2.1 c hc
    .exact mB c hc
  .
   have Dw:some w.heap.size=some b:=hbk
   injection Dw with e1
   subst e1;exact⟨by rw[hs1];omega,.inr (Nat.le_refl _)⟩
theorem Gh{t:TypeId}{y:Operand}{sz':Nat}{sz bytes:Nat}(hg:o.guard=none)(hd:o.dst=some d)(hn:d<n)(ho:o.op= .call { callee:= .builtin .append,args:= #[x,y],argTypes:= #[t,t] })(ht:P.underlying t=some (.slice e))(hz:Ar P e=some sz)(hby:Bz P e=some bytes)(Dc:A_ P e=some zs)(hzl:zs.length=sz)(hone:zs.all (·.oneCell')=true)(hsz:0<sz)(hx:VL E x (full sz' []))(hy:VL E y (slice sz rows))(hpos:0<rows.length)(FA:rows.length<=maxLen)(hfit:rows.length*bytes<=140737488355328):DW P M0 w0 S n j (SR.c Bj) ⟨d,Cq e sz rows⟩ o E (lens rows.length):=by
 refine⟨hg,fun M w a rs Ti he hI hj=>?_⟩;have h2:=hy.ev he Cb;obtain⟨_,A,h1⟩:=hx.ev he Cb;simp only[List.length_nil]at h1;obtain⟨v',w',M',hrun,h3,h4,h5⟩:=Wl A (ty:=o.type) ht hz hby Dc hzl hone hsz hI hj h2 hpos FA hfit;have Di:(execOp a.eval o).run P w= .ok (.value v') w':=by simp[execOp,ho,resolve,invoke,builtin,h1,hrun]
 rw[Di];refine⟨M',h3,h4,?_⟩;have:(SR.at_ (a.put o.dst v') ⟨d,Cq e sz rows⟩)=Cq e sz rows v':=by unfold SR.at_ Slot.val;dsimp only;rw[hd,Bq HY]
 rw[this];exact h5
theorem Sr{I:B3}{t:TypeId}{A:Option Addr}{cap:Nat}(ho:o.op= .call { callee:= .builtin .len,args:= #[x],argTypes:= #[t] })(ht:P.underlying t=some (.slice e))(hx:VL E x (is (.slice A m cap))):Ac P I o E (int m):=
 Ac.same fun M w a he _=>by
  have h1:a.eval x=_:=hx.ev he Cb;exact⟨.int .i64 m,by simp[execOp,ho,resolve,invoke,builtin,Builtin.len_,h1,run_underlying ht,goInt],rfl⟩
theorem Wm{β:Type}{f:β->List Pr}{l:List β}{sz:Nat}(hf:∀x,(f x).length=sz){x:β}(h:l[i]? =some x):((((l.map f).flatten++qs).drop (i*sz)).take sz)=f x:=by
 have hl:∀r∈l.map f,r.length=sz:=fun r hr=>by grind
 have hi:i<l.length:=by grind
 have hfl:=DA hl;rw[List.length_map]at hfl;have hle:(i+1)*sz<=l.length*sz:=Nat.mul_le_mul_right sz hi;rw[Nat.add_mul,Nat.one_mul]at hle
 apply List.ext_getElem?
 intro k;rw[List.getElem?_take]
 split
 .
  rename_i hk
  rw[List.getElem?_drop,List.getElem?_append_left (by rw[hfl];omega),Hs hl (by rw[List.getElem?_map,h];rfl) hk]
 .grind
theorem NJ{β:Type}{f:β->List Pr}{sz:Nat}(hf:∀x,(f x).length=sz):∀{l:List β} {qs:List Pr} {i:Nat} {x:β},i<l.length->((l.map f).flatten++qs).take (i*sz)++f x++((l.map f).flatten++qs).drop (i*sz+sz)=((l.set i x).map f).flatten++qs
 |[],_,_,_,h=>by simp at h
 |a::l,qs,0,x,_=>by
  simp only[List.map_cons,List.flatten_cons,Nat.zero_mul,List.take_zero,List.nil_append,Nat.zero_add,List.set_cons_zero];rw[←hf a,List.append_assoc,List.drop_left,List.append_assoc]
 |a::l,qs,i+1,x,h=>by
  have ih:=NJ hf (l:=l) (qs:=qs) (i:=i) (x:=x) EP;simp only[List.map_cons,List.flatten_cons,List.set_cons_succ];have e1:(i+1)*sz=(f a).length+i*sz:=by rw[hf a,Nat.add_mul];omega
  rw[List.append_assoc,List.append_assoc,e1,List.take_append,List.take_of_length_le AA,show(f a).length+i*sz-(f a).length=i*sz by omega,show(f a).length+i*sz+sz=(f a).length+(i*sz+sz)by omega,List.drop_append,List.drop_of_length_le AA,show(f a).length+(i*sz+sz)-(f a).length=i*sz+sz by omega,List.nil_append,List.append_assoc (f a) _ qs,←ih];simp only[List.append_assoc]
theorem TO.JC{r:List Oper}{Q:Exit->Act->World->Prop}{sz:Nat}(j:Nat)(hj:rs[j]? =some (Cq e sz rows v))(k:∀(b cap:Nat) (spare:List Value),v= .slice (some ⟨b,0,none⟩) rows.length cap->rows.length<=cap->cap<=maxLen->spare.length=(cap-rows.length)*sz->TO P n ops r E (Hp M0 w0 S (rs.set j (AF true b e (rows.flatten++spare.map is)))) Q):TO P n ops r E (Hp M0 w0 S rs) Q:=
 fun m hl a w hs=>let ⟨b,cap,spare,h1,h2,h3,h4,h5⟩:=hs.JC j hj;k b cap spare h1 h2 h3 h4 m hl a w h5
theorem CK{β:Type}{f:β->List Pr}{l:List β}{sz:Nat}(hf:∀x,(f x).length=sz):∀r∈l.map f,r.length=sz:=by grind
theorem St.RP{b cap sz:Nat}(j d:Nat)(hj:rs[j]? =some (AF true b e (rows.flatten++qs)))(hd:E.lookup d=some p)(hp:Pr.le p (is (.slice (some ⟨b,0,none⟩) rows.length cap)))(hl:∀r∈rows,r.length=sz)(hc:rows.length<=cap)(hm:cap<=maxLen)(hq:qs.length=(cap-rows.length)*sz)(h:St n E (Hp M0 w0 S rs) a w):St n ((d,An (.slice (some ⟨b,0,none⟩) rows.length cap) (slice sz rows))::E) (Hp M0 w0 S (rs.set j (A8 e sz (.slice (some ⟨b,0,none⟩) rows.length cap)))) a w:=by
 obtain⟨M,h1,h2,h3,h4⟩:=h;obtain⟨M',h5,h6,h7⟩:=A0.jI h4 hj hl hc hm hq;refine⟨M',h1,h2,fun s q hs=>?_,h6⟩;simp only[List.lookup]at hs
 split at hs
 .
  rename_i e1
  have:s=d:=by simpa using e1
  subst this;simp only[Option.some.injEq]at hs;subst hs;have h8:=hp _ _ _ (h3 _ _ hd);exact⟨h8,by rw[show a.tmps.getD s undef=_ from h8];exact h7⟩
 .exact q.st _ _ _ _ _ h5 (h3 s q hs)
theorem Tr.RP{Q:Exit->Act->World->Prop}{c:Code}{b cap sz:Nat}(rows:List (List Pr))(j d:Nat)(hj:rs[j]? =some (AF true b e (rows.flatten++qs)))(hd:E.lookup d=some p)(hp:Pr.le p (is (.slice (some ⟨b,0,none⟩) rows.length cap)))(hl:∀r∈rows,r.length=sz)(hc:rows.length<=cap)(hm:cap<=maxLen)(hq:qs.length=(cap-rows.length)*sz)(k:Tr L n ((d,An (.slice (some ⟨b,0,none⟩) rows.length cap) (slice sz rows))::E) (Hp M0 w0 S (rs.set j (A8 e sz (.slice (some ⟨b,0,none⟩) rows.length cap)))) c Q):Tr L n E (Hp M0 w0 S rs) c Q:=
 Tr.conv (fun _ _ hs=>hs.RP j d hj hd hp hl hc hm hq) k
theorem Fin.RP{Q:Exit->Act->World->Prop}{x:Exit}{b cap sz:Nat}(rows:List (List Pr))(j d:Nat)(hj:rs[j]? =some (AF true b e (rows.flatten++qs)))(hd:E.lookup d=some p)(hp:Pr.le p (is (.slice (some ⟨b,0,none⟩) rows.length cap)))(hl:∀r∈rows,r.length=sz)(hc:rows.length<=cap)(hm:cap<=maxLen)(hq:qs.length=(cap-rows.length)*sz)(k:Fin n ((d,An (.slice (some ⟨b,0,none⟩) rows.length cap) (slice sz rows))::E) (Hp M0 w0 S (rs.set j (A8 e sz (.slice (some ⟨b,0,none⟩) rows.length cap)))) Q x):Fin n E (Hp M0 w0 S rs) Q x:=
 Fin.conv (fun _ _ hs=>hs.RP j d hj hd hp hl hc hm hq) k
end
section
variable{P:Program}{L:Lg P}{n:Fm}{fz:Nat}{E:Env}{M0:Av}{w0:World}{S:Nat->Prop}{rs:List At}{o:Oper}{g:Func}{M1:Av}{w1:World}
def Ic(T:TypeId)(ps:List Pr)(v:Value):At:=match v with| .pointer (some a)=>AF true a.block T ps|_=>Bj
theorem J3(hg:o.guard=none)(hd:o.dst=some d)(hn:d<n)(ho:o.op= .alloc T)(hz:A_ P T=some zs)(h1':zs.all (·.oneCell')=true):
  DW P M0 w0 S n j (SR.c Bj) ⟨d,Ic T (zs.map is)⟩ o E (Cp.ex fun b=>ptr b 0):=by
 refine⟨hg,fun M w a rs Ti he hI hj=>?_⟩;have h1:∀c∈zs,c.oneCell'=true:=fun c hc=>List.all_eq_true.1 h1' c hc;obtain⟨z,H8,PN⟩:=PM hz w;have hrun:(execOp a.eval o).run P w= .ok (.value (.pointer (some ⟨w.heap.size,0,none⟩))) (w.alloc (.cells zs.toArray T)):=by simp[execOp,ho,Instr.alloc,H8,newVar,newRow,←PN]
 rw[hrun];have hb:Below w.heap.size w (w.alloc (.cells zs.toArray T)):=(Below.refl _ _).alloc (Nat.le_refl _) _;have h2:=Ext.below (M:=M) hb
 have ED:Ext M w (fun b o=>M b o\/b=w.heap.size) (w.alloc (.cells zs.toArray T)):=by
  refine⟨h2.size,fun a v hc hm=>⟨fun hx=>?_,(h2.keep a v hc hm).2⟩,fun b o ho hp hm=>⟨fun hx=>?_,(h2.obj b o ho hp hm).2⟩⟩
  .
   rcases hx with hx|hx
   .exact hm hx
   .exact EA
  .grind
 have hs1:(w.alloc (.cells zs.toArray T)).heap.size=w.heap.size+1:=by simp
 have hat:(SR.at_ (a.put o.dst (.pointer (some ⟨w.heap.size,0,none⟩))) ⟨d,Ic T (zs.map is)⟩)=AF true w.heap.size T (zs.map is):=by unfold SR.at_ Slot.val;dsimp only;rw[hd,Bq HY];rfl
 refine⟨fun b o=>M b o\/b=w.heap.size,⟨_,rfl⟩,ED,?_⟩;rw[hat];refine hI.replace hj ED hb.os hb.tape hb.output (fun k hk _=>hb.block k hk) rfl (fun b o hm _=> .inl hm) (fun b o hx=>?_) ?_ rfl (fun b hbk=>?_)
 .
  rcases hx with hx|hx
  .have:=hI.bd _ _ hx;omega
  .omega
 .refine⟨fun o=> .inr rfl,zs,heap_alloc_new w _,Le _ _ _,h1⟩
 .
  have Dw:some w.heap.size=some b:=hbk
  injection Dw with e1
  subst e1;exact⟨by rw[hs1];omega,.inr (Nat.le_refl _)⟩
theorem J4{t:TypeId}{s:Tmp}{y:Operand}(hg:o.guard=none)(hd:o.dst=none)(ho:o.op= .store t (.tmp s) y)(hx:E.lookup s=some (Cp.ex fun b=>ptr b 0))(hy:VL E y (C6 qs))(hz:Ar P t=some m)(hm:qs.length=m)(hl:ps.length=m):DW P M0 w0 S n j ⟨s,Ic T ps⟩ ⟨s,Ic T qs⟩ o E any:=by
 refine⟨hg,fun M w a rs hsz he hI hj=>?_⟩;have hxv:VL E (.tmp s) (Cp.ex fun b=>ptr b 0):=⟨_,hx,Pr.le_refl _⟩;obtain⟨b,h1'⟩:=hxv.ev he (show(Operand.tmp s)∈o.op.operands.toList by simp[ho,Op.operands]);have h1:a.eval (.tmp s)= .pointer (some ⟨b,0,none⟩):=h1';have h1t:a.tmps.getD s undef= .pointer (some ⟨b,0,none⟩):=h1
 have hj':rs[j]? =some (AF true b T ps):=by
  rw[hj];show some (Ic T ps (a.tmps.getD s undef))=_;rw[h1t];rfl
 obtain⟨h2,h3⟩:=hy.ev he (show y∈o.op.operands.toList by simp[ho,Op.operands]);obtain⟨⟨_,cs,h4,h5,h6⟩,_⟩:=hI.hold _ (List.mem_of_getElem? hj');have kM:=h5.length;have cL:=h2.length;have hcells:(a.eval y).cells.size=m:=by rw[←hm,←cL];simp
 have hrun:(storeCells ⟨b,0,none⟩ (a.eval y).cells.toList 0).run P w= .ok () (w.setRow b (cs.take 0++(a.eval y).cells.toList++cs.drop (0+m)).toArray):=by
  have:=run_storeCells_at (P:=P) b 0 T (a.eval y).cells.toList 0 cs.toArray w h4 CU h3
  simpa[hcells]using this
 have mG:cs.drop (0+m)=[]:=List.drop_eq_nil_of_le AA;rw[mG,List.take_zero,List.nil_append,List.append_nil]at hrun
 have Di:(execOp a.eval o).run P w= .ok .skip (w.setRow b (a.eval y).cells.toList.toArray):=by
  simp only[execOp,ho,h1,Instr.storeAt,Instr.sureAddr,storeVar];simp[B_ hz,hcells,hrun]
 rw[Di];obtain⟨h7,h8⟩:=A0.write (qs:=qs) (cs:=(a.eval y).cells.toList) hI hj' h2 h3;refine⟨M,trivial,h8,?_⟩
 have hat:(SR.at_ (a.put o.dst undef) ⟨s,Ic T qs⟩)=AF true b T qs:=by
  rw[hd];show Ic T qs (a.tmps.getD s undef)=_;rw[h1t];rfl
 rw[hat];exact h7
theorem Fin.YZ{Q:Exit->Act->World->Prop}{x:Exit}(s j:Nat){f:Value->At}(g:Nat->At)(hs:E.lookup s=some (An v (Cp.ex fun b=>ptr b 0)))(hi:rs[j]? =some (f v))(hf:∀b,f (.pointer (some ⟨b,0,none⟩))=g b)(k:∀b,Fin n ((s,ptr b 0)::E) (Hp M0 w0 S (rs.set j (g b))) Q x):Fin n E (Hp M0 w0 S rs) Q x:=by
 intro a w hst;obtain⟨M,h1,h2,he,h4⟩:=hst;obtain⟨h5,b,h6⟩:=he s _ hs;have hv:v= .pointer (some ⟨b,0,none⟩):=by rw[←h5];exact h6
 have hj:rs.set j (g b)=rs:=by
  have hjl:j<rs.length:=by grind
  rw[←hf b,←hv];rw[List.getElem?_eq_getElem hjl]at hi;simp at hi;rw[←hi,List.set_getElem_self]
 refine k b a w ⟨M,h1,h2,?_,by rw[hj];exact h4⟩;intro t q hq;simp only[List.lookup]at hq
 by_cases ht:t=s
 .grind
 .exact Jo
end
section
variable{P:Program}{L:Lg P}{n:Fm}{fz:Nat}{E:Env}{M0:Av}{w0:World}{S:Nat->Prop}{rs:List At}{o:Oper}
def BM(e:TypeId)(sz:Nat)(rows:List (List Pr))(v:Value):At where
 blk:=match v with| .slice (some a) _ _=>some a.block|_=>none
 new:=true
 h M w:=(rows=[]/\v= .slice none 0 0)\/(Cq e sz rows v).h M w
 st M w M' w' he hk h:=h.imp id fun h=>(Cq e sz rows v).st M w M' w' he hk h
theorem Tr.OY{Q:Exit->Act->World->Prop}{c:Code}(e:TypeId)(sz:Nat)(k:Tr L n E (Hp M0 w0 S (BM e sz [] (.slice none 0 0)::rs)) c Q):Tr L n E (Hp M0 w0 S rs) c Q:=
 Tr.conv (fun _ _ ⟨M,h1,h2,h3,h4⟩=>⟨M,h1,h2,h3,A0.G8 h4 (r:=BM e sz [] (.slice none 0 0)) rfl (Or.inl ⟨rfl,rfl⟩)⟩) k
theorem Zp{t ty:TypeId}{sz bytes:Nat}{rows':List (List Pr)}{u:Value}(ht:P.underlying t=some (.slice e))(hz:Ar P e=some sz)(hby:Bz P e=some bytes)(Dc:A_ P e=some zs)(hzl:zs.length=sz)(hone:zs.all (·.oneCell')=true)(hsz:0<sz)(h:A0 M0 w0 S rs M w)(hj:rs[j]? =some (BM e sz rows v))(hl:∀r∈rows,r.length=sz)(hu:(slice sz rows').h M w u)(hpos:0<rows'.length)(FA:rows.length+rows'.length<=maxLen)(hfit:(rows.length+rows'.length)*bytes<=140737488355328):
  ∃v' w' M',(Builtin.append_ #[t,t] ty #[v,u]).run P w= .ok v' w'/\(lens (rows.length+rows'.length)).h M' w' v'/\Ext M w M' w'/\A0 M0 w0 S (rs.set j (BM e sz (rows++rows') v')) M' w':=by
 have hjl:j<rs.length:=by grind
 rcases(h.hold _ (List.mem_of_getElem? hj)).1 with⟨rfl,rfl⟩|fQ
 .
  have h1:=h.DG (r':=Bj) hj rfl rfl trivial;have jK:(rs.set j Bj)[j]? =some Bj:=List.getElem?_set_self hjl;obtain⟨v',w',M',hrun,h2,h3,h4⟩:=Zk (ty:=ty) ht hz hby Dc hzl hone hsz h1 jK hu hpos (by simpa using FA) (by simpa using hfit);rw[List.set_set]at h4;have h5:=h4.DG (r':=BM e sz ([]++rows') v') (List.getElem?_set_self hjl) rfl rfl (.inr (h4.hold _ (List.mem_of_getElem? (List.getElem?_set_self hjl))).1);rw[List.set_set]at h5;exact⟨v',w',M',hrun,by simpa using h2,h3,h5⟩
 .
  obtain⟨b,cap,spare,rfl,hnc,hcm,hsp,Wn⟩:=fQ;have hC:=h.DG (r':=AF true b e (rows.flatten++spare.map is)) hj rfl rfl Wn;have hjC:(rs.set j (AF true b e (rows.flatten++spare.map is)))[j]? =some (AF true b e (rows.flatten++spare.map is)):=List.getElem?_set_self hjl;obtain⟨⟨hMb,cs,dG,hcs,mH⟩,jA⟩:=hC.hold _ (List.mem_of_getElem? hjC);have hfl:=DA hl;have jG:=hcs.length;rw[List.length_append,hfl,List.length_map,hsp,←Nat.add_mul,show rows.length+(cap-rows.length)=cap by omega]at jG;unfold Ar at hz;unfold Bz at hby;unfold A_ at Dc;cases hi:P.info? e with
  |none=>rw[hi]at hz;cases hz
  |some i=>
   rw[hi]at hz hby Dc;simp only[Option.map_some,Option.some.injEq,Option.map_eq_some_iff]at hz hby Dc;obtain⟨z,SZ,Dc⟩:=Dc;have V5:z.cells.size=sz:=by rw[←hzl,←Dc];simp
   obtain⟨A',c',rfl,U5,RC,YY,FE⟩:=hu;have O3:(slice sz rows').h M w (.slice A' rows'.length c'):=⟨A',c',rfl,U5,RC,YY,FE⟩
   obtain⟨M_,rfl⟩:∃M_,A'=some M_:=by
    obtain⟨_,b,hb,_⟩:=FE 0 _ (List.getElem?_eq_getElem hpos);exact⟨b,hb⟩
   obtain⟨news,NK,hcell⟩:=EU hsz O3;have O6:=NK.1;have hnews:=NK.hl hsz
   have hT:HL M w rows.flatten (cs.take (rows.length*sz)):=by
    have:=hcs.take (rows.length*sz)
    rwa [←hfl,List.take_left,hfl]at this
   have hne:(.slice (some ⟨b,0,none⟩) (rows++rows').length cap:Value)= .slice (some ⟨b,0,none⟩) (rows.length+rows'.length) cap:=by rw[List.length_append]
   by_cases hroom:rows.length+rows'.length<=cap
   .
    have hle:(rows.length+rows'.length)*sz<=cap*sz:=Nat.mul_le_mul_right sz hroom;rw[Nat.add_mul]at hle;have hrun:=run_append_room (P:=P) (w:=w) t ty e i ht hi b rows.length cap cs.toArray dG M_ rows'.length c' news (by rw[hz];exact O6) (fun k u hk=>(hcell k u hk).1) NK.2.1 hroom (by rw[hz,O6];simp;omega);rw[hz,O6]at hrun
    have hD:HL M w ((spare.drop (rows'.length*sz)).map is) (cs.drop (rows.length*sz+rows'.length*sz)):=by
     have:=hcs.drop (rows.length*sz+rows'.length*sz);have e1:(rows.flatten++spare.map is).drop (rows.length*sz+rows'.length*sz)=(spare.drop (rows'.length*sz)).map is:=by rw[←hfl,←List.drop_drop,List.drop_left,List.map_drop]
     rwa [e1]at this
    obtain⟨hW,hX⟩:=A0.write (qs:=rows.flatten++rows'.flatten++(spare.drop (rows'.length*sz)).map is) (cs:=cs.take (rows.length*sz)++news++cs.drop (rows.length*sz+rows'.length*sz)) hC hjC ((hT.app hnews).app hD) (fun c hc=>by
     simp only[List.mem_append]at hc;rcases hc with(hc|hc)|hc
     .grind
     .exact NK.2.1 c hc
     .exact mH c (List.mem_of_mem_drop hc))
    rw[List.set_set]at hW;refine⟨_,_,M,hrun,⟨_,_,rfl⟩,hX,?_⟩
    have hW2 := hW.DG (r' := BM e sz (rows ++ rows') (.slice (some ⟨b, 0, none⟩) (rows.length + rows'.length) cap)) (List.getElem?_set_self hjl) rfl rfl (.inr ⟨b, cap, spare.drop (rows'.length * sz), hne.symm, by rw[List.length_append]; exact hroom, hcm, by
     rw[List.length_drop,hsp,List.length_append,←Nat.sub_mul];congr 1;omega,by
     rw[List.flatten_append];exact(hW.hold _ (List.mem_of_getElem? (List.getElem?_set_self hjl))).1⟩)
    rw[List.set_set]at hW2;exact hW2
   .
    have hg:cap<rows.length+rows'.length:=by omega
    have holds:∀k u,(cs.take (rows.length*sz))[k]? =some u->w.cell? ((⟨b,0,none⟩:Addr).add k)=some u:=by
     intro k u hk;have hk2:cs[k]? =some u:=by grind
     rw[FG];simp[World.cell?,dG,hk2]
    have hto:(cs.take (rows.length*sz)).length=rows.length*sz:=by rw[List.length_take,jG];exact Nat.min_eq_left (Nat.mul_le_mul_right sz hnc)
    have hrun:=run_append_grow (P:=P) (w:=w) t ty e i z ht hi SZ ⟨b,0,none⟩ rows.length cap (cs.take (rows.length*sz)) (by rw[hz];exact hto) holds M_ rows'.length c' news (by rw[hz];exact O6) (fun k u hk=>(hcell k u hk).1) hg N5 (by rw[hby];exact growslice_fits hg hfit)
    generalize hcap:grownCap w (rows.length+rows'.length) cap e=cap' at hrun
    have hge:rows.length+rows'.length<=cap':=by rw[←hcap];exact grownCap_ge _ _ _ _
    have hle:cap'<=maxLen:=by rw[←hcap];exact grownCap_le_maxLen _ _ _ _ FA
    generalize Md:Builtin.zeroCells z.cells (cap'-(rows.length+rows'.length))=zc at hrun
    have hzs:zc.size=(cap'-(rows.length+rows'.length))*sz:=by rw[←Md,size_zeroCells,V5]
    have mB:∀c∈zc.toList,c.oneCell'=true:=by rw[←Md];exact Fz Dc hone
    generalize fR:((cs.take (rows.length*sz)).toArray++news.toArray++zc)=arr at hrun
    have F5:arr.toList=cs.take (rows.length*sz)++news++zc.toList:=by rw[←fR];simp
    have hb:Below w.heap.size w (w.drew.alloc (.cells arr e)):=((Below.refl _ _).drew).alloc (Nat.le_refl _) _;have h2:=Ext.below (M:=M) hb
    have ED:Ext M w (fun b o=>M b o\/b=w.heap.size) (w.drew.alloc (.cells arr e)):=by
     refine⟨h2.size,fun a v hc hm=>⟨fun hx=>?_,(h2.keep a v hc hm).2⟩,fun b o ho hp hm=>⟨fun hx=>?_,(h2.obj b o ho hp hm).2⟩⟩
     .
      rcases hx with hx|hx
      .exact hm hx
      .exact EA
     .grind
    have hs1:(w.drew.alloc (.cells arr e)).heap.size=w.heap.size+1:=by simp
    refine⟨_,_,fun b o=>M b o\/b=w.heap.size,hrun,⟨_,_,rfl⟩,ED,?_⟩;refine h.replace hj ED hb.os hb.tape hb.output (fun k hk _=>hb.block k hk) rfl (fun b o hm _=> .inl hm) (fun b o hx=>?_) ?_ rfl (fun b hbk=>?_)
    .
     rcases hx with hx|hx
     .exact I2
     .omega
    .
     refine .inr ⟨w.heap.size,cap',zc.toList,by rw[List.length_append],by rw[List.length_append];exact hge,hle,by rw[List.length_append];simpa using hzs,fun o=> .inr rfl,arr.toList,?_,?_,?_⟩
     .
      have hh:(w.drew.alloc (.cells arr e)).heap[w.heap.size]? =some (.cells arr e (0,0)):=heap_alloc_new w.drew _;rw[hh]
     .rw[F5,List.flatten_append];exact((hT.st ED).app ((NK.st ED).hl hsz)).app (Le _ _ _)
     .
      intro c hc;rw[F5]at hc;simp only[List.mem_append]at hc;rcases hc with(hc|hc)|hc
      .grind
      .exact NK.2.1 c hc
      .exact mB c hc
    .
     have Dw:some w.heap.size=some b:=hbk
     injection Dw with e1
     subst e1;exact⟨by rw[hs1];omega,.inr (Nat.le_refl _)⟩
theorem GG{t:TypeId}{y:Operand}{sz bytes:Nat}{rows':List (List Pr)}(hg:o.guard=none)(hd:o.dst=some d)(hn:d<n)(ho:o.op= .call { callee:= .builtin .append,args:= #[x,y],argTypes:= #[t,t] })(ht:P.underlying t=some (.slice e))(hz:Ar P e=some sz)(hby:Bz P e=some bytes)(Dc:A_ P e=some zs)(hzl:zs.length=sz)(hone:zs.all (·.oneCell')=true)(hsz:0<sz)(hx:VL E x (An v p))(hy:VL E y (slice sz rows'))(hl:∀r∈rows,r.length=sz)(hpos:0<rows'.length)(FA:rows.length+rows'.length<=maxLen)(hfit:(rows.length+rows'.length)*bytes<=140737488355328):DW P M0 w0 S n j (SR.c (BM e sz rows v)) ⟨d,BM e sz (rows++rows')⟩ o E (lens (rows.length+rows'.length)):=by
 refine⟨hg,fun M w a rs Ti he hI hj=>?_⟩;have h1:a.eval x=v:=(hx.ev he Cb).1;have h2:=hy.ev he Cb;obtain⟨v',w',M',hrun,h3,h4,h5⟩:=Zp (ty:=o.type) ht hz hby Dc hzl hone hsz hI hj hl h2 hpos FA hfit;have Di:(execOp a.eval o).run P w= .ok (.value v') w':=by simp[execOp,ho,resolve,invoke,builtin,h1,hrun]
 rw[Di];refine⟨M',h3,h4,?_⟩;have:(SR.at_ (a.put o.dst v') ⟨d,BM e sz (rows++rows')⟩)=BM e sz (rows++rows') v':=by unfold SR.at_ Slot.val;dsimp only;rw[hd,Bq HY]
 rw[this];exact h5
theorem A0.Zq{sz:Nat}(h:A0 M0 w0 S rs M w)(hj:rs[j]? =some (BM e sz rows v))(hl:∀r∈rows,r.length=sz):
  ∃M',Ext M w M' w/\A0 M0 w0 S (rs.set j (A8 e sz v)) M' w/\(slice sz rows).h M' w v:=by
 have hjl:j<rs.length:=by grind
 rcases(h.hold _ (List.mem_of_getElem? hj)).1 with⟨rfl,rfl⟩|fQ
 .exact⟨M,Ext.refl _ _,h.DG hj rfl rfl N8,AL sz M w _ rfl⟩
 .
  obtain⟨b,cap,spare,rfl,hnc,hcm,hsp,Wn⟩:=fQ;have hC:=h.DG (r':=AF true b e (rows.flatten++spare.map is)) hj rfl rfl Wn;obtain⟨M',h1,h2,h3⟩:=A0.jI hC (List.getElem?_set_self hjl) hl hnc hcm (by rw[List.length_map];exact hsp);rw[List.set_set]at h2;exact⟨M',h1,h2,h3⟩
end
section
variable{P:Program}{L:Lg P}{n:Fm}{fz:Nat}{E:Env}{M0:Av}{w0:World}{S:Nat->Prop}{rs:List At}{o:Oper}{ops:Array Oper}{r:List Oper}
def mI(P:Program)(f:FuncId)(args:List Pr)(res:Pr)(r:At)(r':At)(r2:At):Prop:=Entry P f/\∀M0 w0 S rs M w vs,A0 M0 w0 S (r::r2::rs) M w->HL M w args vs->
 Calls P f vs.toArray w fun e w'=>∃v M',e= .returned v/\res.h M' w' v/\Ext M w M' w'/\A0 M0 w0 S (r'::r2::rs) M' w'
theorem mI.of {g : Func} {c : Code} {res : Pr} {R R' R2 : At} (hf : P.funcs[f]? = some g) (hb : g.body = some c) (hname : (g.name == "runtime.NumGoroutine") = false) (hlen : ps.length ≤ g.ntmps) (h : ∀ M0 w0 S rs M1 w1, Tr (Qc P) g.ntmps (IQ 0 ps) (Hp M0 w0 S (R :: Ah M1 w1 :: R2 :: rs)) c (bodyPost P g (NA M0 w0 S (R2 :: rs) M1 w1 res (fun _ => R')))) : mI P f ps res R R' R2 := by
 refine⟨⟨g,hf,hname,by rw[hb];rfl⟩,fun M0 w0 S rs M w vs hI hv=>?_⟩;refine calls_of_wp hf hb (h M0 w0 S rs M w _ _ ⟨M,?_,rfl,ES hv,?_⟩)
 .
  have:=hv.length;simp[this];omega
 .exact Qz
end
abbrev Dn(k:IntKind):Pr:=Cp.ex fun i:Int=>is (.int k i)
theorem BF(k:IntKind)(i:Int):Pr.le (is (.int k i)) (Dn k):=fun _ _ _ h=>⟨i,h⟩
section
variable{P:Program}{L:Lg P}{I:B3}{o:Oper}{E:Env}
theorem Zr{op:BinOp}{t u:TypeId}{y:Operand}{k:IntKind}(hop:(op== .xor||op== .or)=true)(ho:o.op= .binOp op t x y u)(hx:VL E x (Dn k))(hy:VL E y (Dn k)):Ac P I o E (Dn k):=
 Ac.same fun M w a he _=>by
  obtain⟨m,h1⟩:=hx.ev he Ax;obtain⟨n,h2⟩:=hy.ev he Ax;have h1:a.eval x= .int k m:=h1;have h2:a.eval y= .int k n:=h2;cases op<;>simp at hop<;>exact⟨_,by simp[execOp,ho,h1,h2,eqGuard,binOp,Op.intBits];rfl,_,rfl⟩
end
section
variable{P:Program}{L:Lg P}{n:Fm}{fz:Nat}{E:Env}{M0:Av}{w0:World}{S:Nat->Prop}{rs:List At}{o:Oper}{β:Type}{b:Nat}{e:TypeId}{f:β->List Pr}{qs:List Pr}{Φ:List β->Prop}
instance (priority:=300) mJ (b:Bool)(p:Prop)[h:EK b false p]:EK (!b) true p:=⟨fun e=>h.FP (by simpa using e)⟩
instance (priority:=300) mK (b:Bool)(p:Prop)[h:EK b true p]:EK (!b) false p:=⟨fun e=>h.FP (by simpa using e)⟩
end
end Cp
namespace Cp
open Go.Sort
section
variable{β:Type}[Inhabited β]{c:β×β->Int}{st:List β}{a b i j:Int}
def jL(c:β×β->Int)(x y:β):Bool:=decide (c (x,y)<0)
theorem gx(h:i.toNat<st.length):st.toArray[i.toNat]! =st[i.toNat]:=by simp[h]
theorem sw(hi:i.toNat<st.length)(hj:j.toNat<st.length):((st.set i.toNat (st[j.toNat]'hj)).set j.toNat (st[i.toNat]'hi)).toArray=swp st.toArray i.toNat j.toNat:=by
 unfold swp;rw[gx hi,gx hj];simp[Array.setIfInBounds_def,hi,hj]
omit [Inhabited β] in
theorem mL{x y:β}(h:¬c (x,y)<0):jL c x y=false:=decide_eq_false h
variable{hi F r:Int}
variable{lt:β->β->Bool}{a0 b0 m n:Nat}{l s s':Array β}
structure PS(lt:β->β->Bool)(a0 b0 a b:Nat)(l s:Array β):Prop where
 ha:a0<=a
 hab:a<=b
 hb:b<=b0
 hp:PermIn a0 b0 l s
 below:Below lt a b s
 out:∀i j,a0<=i->i<j->j<b0->(i<a\/b<=j)->lt s[j]! s[i]! =false
theorem PS.perm(h:PS lt a0 b0 m n l s)(hs:b0<=l.size)(hq:PermIn m n s s'):PS lt a0 b0 m n l s':=by
 have hsz:s.size=l.size:=h.hp.1;have cQ:n<=s.size:=by have:=h.hb;omega
 refine⟨h.ha,h.hab,h.hb,permIn_trans _ _ _ _ _ h.hp (permIn_mono _ _ _ _ _ _ h.ha h.hb AA hq),Below.permA permIn_all cQ h.below hq,fun i j h1 h2 h3 h4=>?_⟩;have hm:=h.hab
 by_cases hi:m<=i/\i<n
 .
  have hj:n<=j:=by omega
  rw[hq.2.1 j (.inr hj)];exact permIn_all s s' m n (fun x=>lt s[j]! x=false) cQ hq (fun k hk1 hk2=>h.out k j (by have:=h.ha;omega) AA h3 (.inr hj)) i hi.1 hi.2
 .
  rw[hq.2.1 i AA]
  by_cases hj:m<=j/\j<n
  .exact permIn_all s s' m n (fun x=>lt x s[i]! =false) cQ hq (fun k hk1 hk2=>h.out i k h1 AA (by have:=h.hb;omega) (.inl AA)) j hj.1 hj.2
  .rw[hq.2.1 j AA];exact h.out i j h1 h2 h3 h4
theorem PS.done(h:PS lt a0 b0 m n l s)(hs:SortedIn lt m n s):PermIn a0 b0 l s/\SortedIn lt a0 b0 s:=by
 refine⟨h.hp,fun i j h1 h2 h3=>?_⟩
 by_cases hh:i<m\/n<=j
 .exact h.out i j h1 h2 h3 hh
 .exact hs i j AA h2 AA
theorem PS.eq(hw:SWO lt)(h:PS lt a0 b0 m n l s)(hs:b0<=l.size){pv:β}{k:Nat}(hm:0<m)(Vv:lt s[m-1]! pv=false)(hk:m<k)(hkn:k<=n)(hq:PermIn m n s s')(h1:∀i,m<=i->i<k->lt pv s'[i]! =false)(h2:∀i,k<=i->i<n->lt pv s'[i]! =true):
  PS lt a0 b0 k n l s':=by
 have h':=h.perm hs hq
 have hle:∀j,m<=j->j<n->lt s'[j]! pv=false:=by
  intro j jK hj2
  by_cases hjk:k<=j
  .exact hw.asym (h2 j hjk hj2)
  .
   have hb:=h'.below;rcases hb with hb|hb
   .omega
   .
    have hb:=hb j jK hj2;rw[hq.2.1 (m-1) (.inl AA)]at hb;exact hw.ntrans _ _ _ hb Vv
 have key:∀i j,m<=i->i<k->m<=j->j<n->lt s'[j]! s'[i]! =false:=fun i j ha hb hc hd=>hw.ntrans _ _ _ (hle j hc hd) (h1 i ha hb);refine⟨by have:=h.ha;omega,hkn,h.hb,h'.hp,.inr fun i hi1 hi2=>key (k-1) i AA AA AA hi2,fun i j g1 g2 g3 g4=>?_⟩
 by_cases hh:i<m\/n<=j
 .exact h'.out i j g1 g2 g3 hh
 .exact key i j AA AA AA AA
structure Wo(lt:β->β->Bool)(m n k:Nat)(s:Array β):Prop where
 h1:m<=k
 h2:k<n
 lo:∀i,m<=i->i<k->lt s[i]! s[k]! =true
 up:∀i,k<i->i<n->lt s[i]! s[k]! =false
theorem PS.left(hw:SWO lt){k:Nat}(h:PS lt a0 b0 m n l s)(hs:b0<=l.size)(hp:Wo lt m n k s)(hq:PermIn m k s s')(hso:SortedIn lt m k s'):PS lt a0 b0 (k+1) n l s':=by
 obtain⟨h1,h2,lo,up⟩:=hp;have hsz:s.size=l.size:=h.hp.1;have hks:k<=s.size:=by have:=h.hb;omega
 have Qe:PermIn m n s s':=permIn_mono _ _ _ _ _ _ (Nat.le_refl _) AA (by have:=h.hb;omega) hq;have h':=h.perm hs Qe;have ek:s'[k]! =s[k]! :=hq.2.1 k (.inr (Nat.le_refl _));have lo':∀i,m<=i->i<k->lt s'[i]! s[k]! =true:=fun i g1 g2=>permIn_all s s' m k (fun x=>lt x s[k]! =true) hks hq lo i g1 g2;have up':∀i,k<i->i<n->lt s'[i]! s[k]! =false:=fun i g1 g2=>by rw[hq.2.1 i (.inr AA)];exact up i g1 g2
 refine⟨by have:=h.ha;omega,by omega,h.hb,h'.hp,.inr fun i g1 g2=>?_,fun i j g1 g2 g3 g4=>?_⟩
 .rw[show k+1-1=k by omega,ek];exact up' i AA g2
 .
  by_cases hh:i<m\/n<=j
  .exact h'.out i j g1 g2 g3 hh
  .
   rcases Nat.lt_trichotomy i k with hik|hik|hik
   .
    rcases Nat.lt_trichotomy j k with hjk|hjk|hjk
    .exact hso i j AA g2 hjk
    .subst hjk;rw[ek];exact hw.asym (lo' i AA hik)
    .exact SK
   .subst hik;rw[ek];exact up' j g2 AA
   .omega
theorem PS.right(hw:SWO lt){k:Nat}(h:PS lt a0 b0 m n l s)(hs:b0<=l.size)(hp:Wo lt m n k s)(hq:PermIn (k+1) n s s')(hso:SortedIn lt (k+1) n s'):PS lt a0 b0 m k l s':=by
 obtain⟨h1,h2,lo,up⟩:=hp;have hsz:s.size=l.size:=h.hp.1;have cQ:n<=s.size:=by have:=h.hb;omega
 have Qe:PermIn m n s s':=permIn_mono _ _ _ _ _ _ AA (Nat.le_refl _) cQ hq;have h':=h.perm hs Qe;have ek:s'[k]! =s[k]! :=hq.2.1 k (.inl AA);have lo':∀i,m<=i->i<k->lt s'[i]! s[k]! =true:=fun i g1 g2=>by rw[hq.2.1 i (.inl AA)];exact lo i g1 g2
 have up':∀i,k<i->i<n->lt s'[i]! s[k]! =false:=fun i g1 g2=>permIn_all s s' (k+1) n (fun x=>lt x s[k]! =false) cQ hq (fun i q1 q2=>up i AA q2) i AA g2;refine⟨h.ha,h1,by have:=h.hb;omega,h'.hp,?_,fun i j g1 g2 g3 g4=>?_⟩
 .
  rcases h'.below with hb|hb
  .exact .inl hb
  .exact .inr fun i q1 q2=>hb i q1 AA
 .
  by_cases hh:i<m\/n<=j
  .exact h'.out i j g1 g2 g3 hh
  .
   rcases Nat.lt_trichotomy i k with hik|hik|hik
   .
    rcases Nat.lt_trichotomy j k with hjk|hjk|hjk
    .omega
    .subst hjk;rw[ek];exact hw.asym (lo' i AA hik)
    .exact SK
   .subst hik;rw[ek];exact up' j g2 AA
   .exact hso i j AA g2 AA
end
section
variable{β:Type}[Inhabited β]{c:β×β->Int}{st:List β}
def Adj(c:β×β->Int)(a b:Int)(l:List β):Prop:=∀k,a.toNat<k->k<b.toNat->jL c l.toArray[k]! l.toArray[k-1]! =false
theorem Adj.go{a i k:Int}(h:Adj c a i st)(h0:0<=a)(ha:a<i)(hk:k=i-1)(hi:i.toNat<st.length)(hk':k.toNat<st.length)(hc:0<=c (st[i.toNat]'hi,st[k.toNat]'hk')):Adj c a (i+1) st:=fun m h1 h2=>by
 rcases Nat.lt_or_ge m i.toNat with hm|hm
 .exact h m h1 hm
 .
  have e:m=i.toNat:=by omega
  subst e;rw[show i.toNat-1=k.toNat by omega,gx hi,gx hk'];exact mL AA
end
section
variable{β:Type}[Inhabited β]
def Ff(a b:Int)(l st:List β):Prop:=PermIn a.toNat b.toNat l.toArray st.toArray
def dH(c:β×β->Int)(a b:Int)(l st:List β):Prop:=PermIn a.toNat b.toNat l.toArray st.toArray/\SortedIn (jL c) a.toNat b.toNat st.toArray
theorem Ff.len{a b:Int}{l st:List β}(h:Ff a b l st):st.length=l.length:=by have:=h.1;simpa using this
theorem dH.len{c:β×β->Int}{a b:Int}{l st:List β}(h:dH c a b l st):st.length=l.length:=by have:=h.1.1;simpa using this
def dI(c:β×β->Int)(hi first lo:Int)(l st:List β):Prop:=st.length=l.length/\st.toArray=siftDown (jL c) hi.toNat first.toNat lo.toNat l.toArray
theorem dI.len{c:β×β->Int}{hi first lo:Int}{l st:List β}(h:dI c hi first lo l st):st.length=l.length:=h.1
abbrev PE(c:β×β->Int)(a b pv:Int)(l:List β):Nat×Array β:=partitionEqual (jL c) l.toArray a.toNat b.toNat pv.toNat
abbrev PA(c:β×β->Int)(a b pv:Int)(l:List β):Nat×Bool×Array β:=partition (jL c) l.toArray a.toNat b.toNat pv.toNat
def dJ(c:β×β->Int)(a b pv:Int)(l st:List β):Prop:=st.length=l.length/\st.toArray=(PE c a b pv l).2
def dK(c:β×β->Int)(a b pv:Int)(l st:List β):Prop:=st.length=l.length/\st.toArray=(PA c a b pv l).2.2
theorem dJ.len{c:β×β->Int}{a b pv:Int}{l st:List β}(h:dJ c a b pv l st):st.length=l.length:=h.1
theorem dK.len{c:β×β->Int}{a b pv:Int}{l st:List β}(h:dK c a b pv l st):st.length=l.length:=h.1
theorem Ff.refl(a b:Int)(l:List β):Ff a b l l:=permIn_refl _ _ _
theorem Ff.swap{a b i j:Int}{l st:List β}(h:Ff a b l st)(hi:i.toNat<st.length)(hj:j.toNat<st.length)(h1:a.toNat<=i.toNat)(h2:i.toNat<b.toNat)(h3:a.toNat<=j.toNat)(h4:j.toNat<b.toNat)(hb:b.toNat<=l.length):
  Ff a b l ((st.set i.toNat (st[j.toNat]'hj)).set j.toNat (st[i.toNat]'hi)):=by
 unfold Ff;rw[sw hi hj];exact permIn_trans _ _ _ _ _ h (swp_permIn _ _ _ _ _ h1 h2 h3 h4 (by have:=h.len;simp;omega))
theorem Ff.trans{a b:Int}{l m st:List β}(h:Ff a b l m)(k:Ff a b m st):Ff a b l st:=permIn_trans _ _ _ _ _ h k
theorem Ff.whole{l st:List β}(h:Ff 0 l.length l st):st.Perm l:=by
 have:=h.2.2;have e:=h.len
 rwa [show((l.length:Nat):Int).toNat=l.toArray.size by simp,show(0:Int).toNat=0 from rfl,Array.extract_size,show l.toArray.size=st.toArray.size by simp[e],Array.extract_size]at this
end
section
open Go
variable{P:Program}{L:Lg P}{n:Fm}{fz:Nat}{E:Env}{M0:Av}{w0:World}{S:Nat->Prop}{rs:List At}{new:Bool}{b:Nat}{T:TypeId}{ps:List Pr}
end
end Cp
namespace Cp
open Go Go.RowKit Go.Great
variable{a:Act}{new:Bool}{f:FuncId}{rows:List (List Pr)}{ps qs:List Pr}{i j m:Nat}{x:Operand}{p:Pr}{T e:TypeId}{w:World}
section
variable{P:Program}{L:Lg P}{n:Fm}{fz:Nat}{E:Env}{I:B3}{Q:Exit->Act->World->Prop}
theorem Tr.Zs{α0 α1:Type}(K:Env)(hK:CE E K)(F:α0->α1->Env)(Ii:α0->α1->B3)(C:α0->α1->Prop){x y:Code}(h:Tr L n E I x (Exit.then (fun a w=>∃x0 x1,C x0 x1/\St n (F x0 x1++K) (Ii x0 x1) a w) Q))
  (k:∀x0 x1,C x0 x1->Tr L n (F x0 x1++K) (Ii x0 x1) y Q):Tr L n E I (.seq x y) Q:=
 Tr.cut (fun y:α0×α1=>F y.1 y.2++K) (fun y=>Ii y.1 y.2) (fun y=>C y.1 y.2) (Tr.post h fun e a w h=>by cases e<;>first|exact h|(obtain⟨x0,x1,h1,h2⟩:=h;exact⟨(x0,x1),h1,h2⟩)) fun y hy=>k y.1 y.2 hy
theorem Tr.Zt{α0 α1 α2:Type}(K:Env)(hK:CE E K)(F:α0->α1->α2->Env)(Ii:α0->α1->α2->B3)(C:α0->α1->α2->Prop){x y:Code}(h:Tr L n E I x (Exit.then (fun a w=>∃x0 x1 x2,C x0 x1 x2/\St n (F x0 x1 x2++K) (Ii x0 x1 x2) a w) Q))
  (k:∀x0 x1 x2,C x0 x1 x2->Tr L n (F x0 x1 x2++K) (Ii x0 x1 x2) y Q):Tr L n E I (.seq x y) Q:=
 Tr.cut (fun y:α0×α1×α2=>F y.1 y.2.1 y.2.2++K) (fun y=>Ii y.1 y.2.1 y.2.2) (fun y=>C y.1 y.2.1 y.2.2) (Tr.post h fun e a w h=>by cases e<;>first|exact h|(obtain⟨x0,x1,x2,h1,h2⟩:=h;exact⟨(x0,x1,x2),h1,h2⟩)) fun y hy=>k y.1 y.2.1 y.2.2 hy
theorem Tr.Zu{α0 α1 α2:Type}(K:Env)(hK:CE E K)(F:α0->α1->α2->Value->Env)(Ii:α0->α1->α2->Value->B3)(C:α0->α1->α2->Prop){x y:Code}(h:Tr L n E I x (Exit.then (fun a w=>∃x0 x1 x2 v0,C x0 x1 x2/\St n (F x0 x1 x2 v0++K) (Ii x0 x1 x2 v0) a w) Q))
  (k:∀x0 x1 x2 v0,C x0 x1 x2->Tr L n (F x0 x1 x2 v0++K) (Ii x0 x1 x2 v0) y Q):Tr L n E I (.seq x y) Q:=
 Tr.cut (fun y:α0×α1×α2×Value=>F y.1 y.2.1 y.2.2.1 y.2.2.2++K) (fun y=>Ii y.1 y.2.1 y.2.2.1 y.2.2.2) (fun y=>C y.1 y.2.1 y.2.2.1) (Tr.post h fun e a w h=>by cases e<;>first|exact h|(obtain⟨x0,x1,x2,v0,h1,h2⟩:=h;exact⟨(x0,x1,x2,v0),h1,h2⟩)) fun y hy=>k y.1 y.2.1 y.2.2.1 y.2.2.2 hy
end
section
variable{P:Program}{L:Lg P}{n:Fm}{fz:Nat}{E:Env}{M0:Av}{w0:World}{S:Nat->Prop}{rs:List At}{β:Type}{e:TypeId}{sz:Nat}{f:β->List Pr}{Φ:List β->Prop}{v:Value}
theorem St.Zv(j d:Nat)(hj:rs[j]? =some (BM e sz rows v))(hd:E.lookup d=some (An v p))(hf:∀r∈rows,r.length=sz)(hs:St n E (Hp M0 w0 S rs) a w):
  St n ((d,An v (slice sz rows))::E) (Hp M0 w0 S (rs.set j (A8 e sz v))) a w:=by
 obtain⟨M,h1,h2,h3,h4⟩:=hs;have h4:A0 M0 w0 S rs M w:=h4;obtain⟨M',h6,h7,h8⟩:=A0.Zq h4 hj hf;refine⟨M',h1,h2,fun s q hq=>?_,h7⟩;simp only[List.lookup]at hq
 split at hq
 .
  rename_i e1
  have:s=d:=by simpa using e1
  subst this;simp only[Option.some.injEq]at hq;subst hq;have h9:=(h3 _ _ hd).1;exact⟨h9,by rw[h9];exact h8⟩
 .exact q.st _ _ _ _ _ h6 (h3 s q hq)
theorem Tr.Zv{Q:Exit->Act->World->Prop}{c:Code}(j d:Nat)(hj:rs[j]? =some (BM e sz rows v))(hd:E.lookup d=some (An v p))(hf:∀r∈rows,r.length=sz)(k:Tr L n ((d,An v (slice sz rows))::E) (Hp M0 w0 S (rs.set j (A8 e sz v))) c Q):Tr L n E (Hp M0 w0 S rs) c Q:=
 fun a w hs=>k a w (hs.Zv j d hj hd hf)
theorem L4(h:rows=[]):Pr.le (is (.slice none 0 0)) (An (.slice none 0 0) (lens rows.length)):=by
 subst h;exact fun _ _ _ hv=>⟨hv,⟨none,0,by rw[hv];rfl⟩⟩
theorem K8{v:Value}{a b:Nat}(h:a=b):Pr.le (An v (lens a)) (An v (lens b)):=by subst h;exact Pr.le_refl _
end
section
variable{P:Program}{L:Lg P}{n:Fm}{fz:Nat}{E:Env}{M0:Av}{w0:World}{S:Nat->Prop}{rs:List At}{o:Oper}
theorem Hu{I:B3}{t:TypeId}(ho:o.op= .call { callee:= .builtin .len,args:= #[x],argTypes:= #[t] })(ht:P.underlying t=some (.slice e))(hx:VL E x (is (.slice none 0 0))):Ac P I o E (int 0):=
 Ac.le (A9 (sz:=1) (rows:=[]) ho ht (VL.le hx (AL 1))) (Pr.le_refl _)
end
section
variable{P:Program}{L:Lg P}{n:Fm}{fz:Nat}{E:Env}{M0:Av}{w0:World}{S:Nat->Prop}{rs:List At}{ε:Type}{res:ε->List At}
theorem St.perm{rs':List At}(hp:rs.Perm rs')(h:St n E (Hp M0 w0 S rs) a w):St n E (Hp M0 w0 S rs') a w:=by
 obtain⟨M,h1,h2,h3,h4⟩:=h;exact⟨M,h1,h2,h3,A0.perm hp h4⟩
theorem RQ{β:Type}{f:β->List Pr}{l:List β}{sz:Nat}(hf:∀x,(f x).length=sz){x y:β}(h:l[i]? =some x)(hj:j<sz)(hy:(f x).set j p=f y):
  ((l.map f).flatten++qs).take (i*sz+j)++[p]++((l.map f).flatten++qs).drop (i*sz+j+1)=((l.set i y).map f).flatten++qs:=by
 have Ey:i<l.length:=by rcases Nat.lt_or_ge i l.length with h'|h';exact h';rw[List.getElem?_eq_none h']at h;cases h
 have h1:=NJ (f:=f) (qs:=qs) (x:=y) hf Ey;have h2:=Wm (qs:=qs) hf h;have hfl:=hf x;have hfy:=hf y;rw[←h1]
 generalize hz:(l.map f).flatten++qs=z at*
 have hzl:i*sz+sz<=z.length:=by
  have:=congrArg List.length h2;rw[List.length_take,List.length_drop,hfl]at this;omega
 have e1:z.take (i*sz+j)++[p]++z.drop (i*sz+j+1)=z.set (i*sz+j) p:=by
  rw[List.set_eq_take_append_cons_drop,if_pos AA];simp
 rw[e1];refine List.ext_getElem? fun m=>?_;have PN:∀q,q<sz->z[i*sz+q]? =(f x)[q]? :=fun q hq=>by rw[←h2,List.getElem?_take,if_pos hq,List.getElem?_drop]
 have htl:(z.take (i*sz)).length=i*sz:=by rw[List.length_take];omega
 rw[List.append_assoc];rcases Nat.lt_or_ge m (i*sz)with hm|hm
 .rw[List.getElem?_set_ne AA,List.getElem?_append_left AA,List.getElem?_take,if_pos hm]
 .
  obtain⟨q,rfl⟩:∃q,m=i*sz+q:=⟨m-i*sz,by omega⟩;rw[List.getElem?_append_right AA,htl,Nat.add_sub_cancel_left];rcases Nat.lt_or_ge q sz with hq|hq
  .
   rw[List.getElem?_append_left AA,←hy]
   by_cases hqj:q=j
   .
    subst hqj;rw[List.getElem?_set_self AA,List.getElem?_set_self AA]
   .rw[List.getElem?_set_ne AA,List.getElem?_set_ne AA,PN q hq]
  .
   rw[List.getElem?_append_right AA,hfy,List.getElem?_drop,List.getElem?_set_ne AA]
   congr 1;omega
end
section
variable{P:Program}{L:Lg P}{n:Fm}{fz:Nat}{E:Env}{M0:Av}{w0:World}{S:Nat->Prop}{rs:List At}{o:Oper}
end
section
variable{P:Program}{L:Lg P}{n:Fm}{fz:Nat}{E:Env}{M0:Av}{w0:World}{S:Nat->Prop}{rs:List At}{o:Oper}
theorem BW.RR{sz:Nat}{res:Pr}{R:At}(h:BW P f ps res R (fun v=>Cq e sz rows v)):BW P f ps res R (fun v=>BM e sz rows v):=by
 refine⟨h.1,fun M0 w0 S rs M w vs hI hv=>(h.2 M0 w0 S rs M w vs hI hv).mono ?_⟩;rintro e' w' ⟨v,M',rfl,h2,h3,h4⟩;exact⟨v,M',rfl,h2,h3,h4.DG (i:=0) rfl rfl rfl (.inr (h4.hold _ (List.mem_cons_self ..)).1)⟩
instance jM (p q:Pr)[L1 p][L1 q]:L1 (D8 [p,q]):=⟨fun M M' w v ⟨cs,h1,h2⟩=>⟨cs,h1,by
 match cs,h2 with
 |[a,b],h2=>exact⟨L1.free _ _ _ _ h2.1,L1.free _ _ _ _ h2.2.1,trivial⟩⟩⟩
end
section
variable{P:Program}{L:Lg P}{n:Fm}{fz:Nat}{E:Env}{M0:Av}{w0:World}{S:Nat->Prop}{o:Oper}
end
section
variable{P:Program}{L:Lg P}{n:Fm}{fz:Nat}{E:Env}{M0:Av}{w0:World}{S:Nat->Prop}{rs:List At}{ε:Type}{res:ε->List At}
theorem Tr.O7{Q:Exit->Act->World->Prop}{c:Code}(j:Nat){b:Nat}(qs:List Pr)(hi:rs[j]? =some (AF new b T ps))(h:ps=qs)(k:Tr L n E (Hp M0 w0 S (rs.set j (AF new b T qs))) c Q):Tr L n E (Hp M0 w0 S rs) c Q:=by
 subst h;exact Tr.Fy j ps hi (Fc.rfl' ps) k
theorem Fin.O7{Q:Exit->Act->World->Prop}{e:Exit}(j:Nat){b:Nat}(qs:List Pr)(hi:rs[j]? =some (AF new b T ps))(h:ps=qs)(k:Fin n E (Hp M0 w0 S (rs.set j (AF new b T qs))) Q e):Fin n E (Hp M0 w0 S rs) Q e:=by
 subst h;exact Fin.Fy j ps hi (Fc.rfl' ps) k
end
section
variable{P:Program}{L:Lg P}{n:Fm}{fz:Nat}{E:Env}{M0:Av}{w0:World}{S:Nat->Prop}{o:Oper}
theorem L5{I:B3}{t:TypeId}(ho:o.op= .call { callee:= .builtin .len,args:= #[x],argTypes:= #[t] })(ht:P.underlying t=some (.slice e))(hx:VL E x (lens m)):Ac P I o E (int m):=
 Ac.same fun M w a he _=>by
  obtain⟨A,c,h1⟩:=hx.ev he Cb;exact⟨.int .i64 m,by simp[execOp,ho,resolve,invoke,builtin,Builtin.len_,h1,run_underlying ht,goInt],rfl⟩
end
end Cp
namespace Cp
open Go Go.RowKit
section
variable{P:Program}{L:Lg P}{I:B3}{o:Oper}{E:Env}
theorem Tt{c y:Operand}{b d:Bool}(ho:o.op= .pick c (.const (.bool true)) y)(hc:VL E c (bool b))(hy:VL E y (bool d)):Ac P I o E (bool (b||d)):=by
 cases b with
 |true=>exact Jt ho hc rfl (vl rfl)
 |false=>exact Ju ho hc rfl hy
theorem RS{c x:Operand}{b d:Bool}(ho:o.op= .pick c x (.const (.bool false)))(hc:VL E c (bool b))(hx:VL E x (bool d)):Ac P I o E (bool (b&&d)):=by
 cases b with
 |true=>exact Jt ho hc rfl hx
 |false=>exact Ju ho hc rfl (vl rfl)
end
section
variable{P:Program}{L:Lg P}{n:Fm}{fz:Nat}{E:Env}{M0:Av}{w0:World}{S:Nat->Prop}{rs:List At}{o:Oper}
theorem L6{t e:TypeId}{x y:Operand}{sz bytes d:Nat}{zs:List Value}{rows rows':List (List Pr)}{v:Value}{p:Pr}{j:Nat}(hg:o.guard=none)(hd:o.dst=some d)(hn:d<n)(ho:o.op= .call { callee:= .builtin .append,args:= #[x,y],argTypes:= #[t,t] })
  (ht:P.underlying t=some (.slice e)) (hz:Ar P e=some sz) (hby:Bz P e=some bytes) (Dc:A_ P e=some zs) (hzl:zs.length=sz) (hone:zs.all (·.oneCell')=true) (hsz:0<sz)
  (hx:VL E x (An v p)) (hy:VL E y (slice sz rows')) (hl:∀r∈rows,r.length=sz) (FA:rows.length+rows'.length<=maxLen) (hfit:(rows.length+rows'.length)*bytes<=140737488355328):DW P M0 w0 S n j (SR.c (BM e sz rows v)) ⟨d,BM e sz (rows++rows')⟩ o E (lens (rows.length+rows'.length)):=by
 rcases Nat.eq_zero_or_pos rows'.length with h0|h0
 .
  have jE:rows'=[]:=List.eq_nil_of_length_eq_zero h0;subst jE;refine⟨hg,fun M w a rs Ti he hI hj=>?_⟩;have h1:a.eval x=v:=(hx.ev he Cb).1;obtain⟨A',c',hu,_⟩:=hy.ev he Cb;have hj':rs[j]? =some (BM e sz rows v):=hj
  have hv:∃A c,v= .slice A rows.length c/\rows.length<=c:=by
   rcases(hI.hold _ (List.mem_of_getElem? hj')).1 with⟨rfl,rfl⟩|⟨b,cap,sp,rfl,h2,_⟩
   .exact⟨none,0,rfl,Nat.le_refl _⟩
   .exact⟨_,_,rfl,h2⟩
  obtain⟨A,c,Tu,Tp⟩:=hv;have hrun:=El (P:=P) (ty:=o.type) (A:=A) (A':=A') (n:=rows.length) (c:=c) (c':=c') ht hz Tp w
  have Di:(execOp a.eval o).run P w= .ok (.value v) w:=by
   simp[execOp,ho,resolve,invoke,builtin,h1,hu];rw[Tu,hrun];rfl
  rw[Di];refine⟨M,⟨A,c,by rw[Tu];rfl⟩,Ext.refl _ _,?_⟩;have:(SR.at_ (a.put o.dst v) ⟨d,BM e sz (rows++[])⟩)=BM e sz (rows++[]) v:=by unfold SR.at_ Slot.val;dsimp only;rw[hd,Bq HY]
  rw[this,List.append_nil]
  have hse:rs.set j (BM e sz rows v)=rs:=by
   apply List.ext_getElem?
   intro i;rw[List.getElem?_set]
   by_cases hij:j=i
   .
    subst hij;rw[if_pos rfl]
    split
    .exact hj'.symm
    .
     rename_i hge
     rw[List.getElem?_eq_none AA]
   .rw[if_neg hij]
  rw[hse];exact hI
 .exact GG hg hd hn ho ht hz hby Dc hzl hone hsz hx hy hl h0 FA hfit
end
end Cp
namespace Cp
open Go Go.RowKit Go.Great
variable{a:Act}{parts:Array (Nat×Operand)}{ops:Array Oper}{ts:Array TypeId}{M:Av}{new:Bool}{f:FuncId}{rows:List (List Pr)}{ps qs:List Pr}{zs:List Value}{d i j k m:Nat}{o:Oper}{x:Operand}{p:Pr}{T e:TypeId}{v:Value}{w:World}
def JE{α:Type}(P:Program)(f:FuncId)(args:List Pr)(pre:List At)(C:α->Prop)(res:α->Pr)(post:α->List At):Prop:=Entry P f/\∀M0 w0 S rs M w vs,A0 M0 w0 S (pre++rs) M w->HL M w args vs->
 Calls P f vs.toArray w fun e w'=>∃v M' x,e= .returned v/\C x/\(res x).h M' w' v/\Ext M w M' w'/\A0 M0 w0 S (post x++rs) M' w'
def NL{α:Type}(M0:Av)(w0:World)(S:Nat->Prop)(rs:List At)(M1:Av)(w1:World)(C:α->Prop)(res:α->Pr)(post:α->List At)(e:Ending)(w':World):Prop:=∃v M' x,e= .returned v/\C x/\(res x).h M' w' v/\Ext M1 w1 M' w'/\A0 M0 w0 S (post x++rs) M' w'
section
variable{P:Program}{L:Lg P}{n:Fm}{fz:Nat}{E:Env}{M0:Av}{w0:World}{S:Nat->Prop}{rs:List At}{α:Type}{pre:List At}{C:α->Prop}{res:α->Pr}{post:α->List At}{M1:Av}{w1:World}{g:Func}{o:Oper}{r:List Oper}{ops:Array Oper}
theorem JE.of {c : Code} (hf : P.funcs[f]? = some g) (hb : g.body = some c) (hname : (g.name == "runtime.NumGoroutine") = false) (hlen : ps.length ≤ g.ntmps) (h : ∀ M0 w0 S rs M1 w1, Tr (Qc P) g.ntmps (IQ 0 ps) (Hp M0 w0 S (pre ++ Ah M1 w1 :: rs)) c (bodyPost P g (NL M0 w0 S rs M1 w1 C res post))) : JE P f ps pre C res post := by
 refine⟨⟨g,hf,hname,by rw[hb];rfl⟩,fun M0 w0 S rs M w vs hI hv=>?_⟩;refine calls_of_wp hf hb (h M0 w0 S rs M w _ _ ⟨M,?_,rfl,ES hv,?_⟩)
 .
  have:=hv.length;simp[this];omega
 .exact Q0
theorem A0.Wp{args:List Pr}{rest:List At}(hf:JE P f args pre C res post)(hp:rs.Perm (pre++rest))(hI:A0 M0 w0 S rs M w){vs:List Value}(hv:HL M w args vs):
  Calls P f vs.toArray w fun e w'=>∃v M' x,e= .returned v/\C x/\(res x).h M' w' v/\Ext M w M' w'/\A0 M0 w0 S (post x++rest) M' w':=hf.2 M0 w0 S rest M w vs (A0.perm hp hI) hv
theorem TO.Wp{Q:Exit->Act->World->Prop}{xs:Array Operand}(rest:List At)(hg:o.guard=none)(hd:o.dst=some d)(hn:d<n)(ho:o.op= .call { callee:= .value (.func f),args:=xs,argTypes:=ts })(hf:JE P f ps pre C res post)(hv:G0 E xs.toList ps)(hp:rs.Perm (pre++rest))(k:∀x,C x->TO P n ops r ((d,res x)::E) (Hp M0 w0 S (post x++rest)) Q):TO P n ops (o::r) E (Hp M0 w0 S rs) Q:=
 TO.U4 hg fun K M w a hsz hdf he hI hK=>by
  have hI:A0 M0 w0 S rs M w:=hI;have h1:=G0.Ex (o:=o) (CB he) (xs:=xs.toList) (fun x hx=>by simp[ho,Op.operands,Call.operands];exact .inr Hf) hv
  have hrun:(execOp a.eval o).run P w= .ok (.enter f (xs.toList.map a.eval).toArray) w:=by
   simp[execOp,ho,resolve,Deferred.ofValue,Act.eval,invoke,DV hf.1,HA xs]
  unfold Oper.wp;rw[hrun];refine(A0.Wp hf hp hI h1).mono ?_;rintro e w' ⟨v,M',x,rfl,hC,h2,h3,h4⟩;refine hK _ _ _ _ (k x hC) ⟨M',by rw[Bo];exact hsz,by rw[put_defers];exact hdf,?_,h4⟩;intro s q hq;simp only[List.lookup]at hq
  by_cases hs:s=d
  .subst hs;simp at hq;subst hq;rw[hd,Bq Ft];exact h2
  .rw[show(s==d)=false by simpa using hs]at hq;rw[hd,Bh hs];exact q.st _ _ _ _ _ h3 (he s q hq)
theorem Wq{l:List At}(h:A0 M0 w0 S (l++Ah M1 w1::rs) M w):Ext M1 w1 M w/\A0 M0 w0 S (l++rs) M w:=
 ⟨(h.hold (Ah M1 w1) AO).1,(A0.perm List.perm_middle h).Gs⟩
theorem Fin.mM{rv rv':ResultVar}{q q':Pr}{rs':List At}(x:α)(hr:g.results= #[rv,rv'])(h:AZ P E rs' rv q)(h':AZ P E rs' rv' q')(hC:C x)(hl:Pr.le (D8 [q,q']) (res x))(hp:rs'.Perm (post x++Ah M1 w1::rs)):
  Fin ⟨fz,[]⟩ E (Hp M0 w0 S rs') (bodyPost P g (NL M0 w0 S rs M1 w1 C res post)) .ret:=by
 rintro a w ⟨M,_,hd,he,hi⟩;have hi:A0 M0 w0 S rs' M w:=hi;obtain⟨v,hv,mN⟩:=h M w a he (fun q hq=>(hi.hold q hq).1);obtain⟨v',eN,hp2⟩:=h' M w a he (fun q hq=>(hi.hold q hq).1);obtain⟨h1,h2⟩:=Wq (A0.perm hp hi);exact⟨hd,_,results2 hr hv eN,_,M,x,rfl,hC,hl _ _ _ ⟨[_,_],rfl,mN,hp2,trivial⟩,h1,h2⟩
end
section
variable{P:Program}{L:Lg P}{n:Fm}{fz:Nat}{E:Env}{M0:Av}{w0:World}{S:Nat->Prop}{rs:List At}{o:Oper}
def fS:Value->Option Nat
 | .slice (some a) _ (_+1)=>some a.block
 |_=>none
def CL(e:TypeId)(sz:Nat)(rows:List (List Pr))(v:Value):At where
 blk:=fS v
 new:=true
 h M w:=(rows=[]/\∃A,v= .slice A 0 0)\/(∃(b cap:Nat) (spare:List Value),v= .slice (some ⟨b,0,none⟩) rows.length (cap+1)/\rows.length<=cap+1/\cap+1<=maxLen/\spare.length=(cap+1-rows.length)*sz/\(AF true b e (rows.flatten++spare.map is)).h M w)
 st M w M' w' he hk h:=by
  rcases h with h|⟨b,cap,spare,rfl,h1,h2,h3,h4⟩
  .exact .inl h
  .exact .inr ⟨b,cap,spare,rfl,h1,h2,h3,(AF true b e _).st _ _ _ _ he hk h4⟩
theorem BO{α:Type}{l:List α}{x:α}(h:l[j]? =some x):j<l.length:=by grind
theorem A0.blank{r:At}(h:A0 M0 w0 S rs M w)(hj:rs[j]? =some r):A0 M0 w0 S (rs.set j Bj) M w:=
 A0.perm (I8 (BO hj)) ((A0.perm (GZ hj) h).Gs.G8 (r:=Bj) rfl trivial)
theorem L7(sz:Nat)(A:Option Addr)(M:Av)(w:World):(slice sz []).h M w (.slice A 0 0):=⟨A,0,rfl,Nat.le_refl _,Nat.zero_le _,fun _=>rfl,fun i row h=>by simp at h⟩
theorem Tv(sz:Nat)(A:Option Addr)(M:Av)(w:World):(full sz []).h M w (.slice A 0 0):=⟨L7 sz A M w,A,rfl⟩
theorem A0.Zw{sz:Nat}(h:A0 M0 w0 S rs M w)(hj:rs[j]? =some (CL e sz rows v))(hl:∀r∈rows,r.length=sz):
  ∃M',Ext M w M' w/\A0 M0 w0 S (rs.set j Bj) M' w/\(slice sz rows).h M' w v:=by
 have hjl:=BO hj;rcases(h.hold _ (List.mem_of_getElem? hj)).1 with⟨rfl,A,rfl⟩|⟨b,cap,spare,rfl,hnc,hcm,hsp,Wn⟩
 .exact⟨M,Ext.refl _ _,h.blank hj,L7 sz A M w⟩
 .
  have hC:=h.DG (r':=AF true b e (rows.flatten++spare.map is)) hj rfl rfl Wn;obtain⟨M',h1,h2,h3⟩:=A0.jI hC (List.getElem?_set_self hjl) hl hnc hcm (by rw[List.length_map];exact hsp);have h4:=h2.blank (j:=j) (by rw[List.set_set];exact List.getElem?_set_self hjl);rw[List.set_set,List.set_set]at h4;exact⟨M',h1,h4,h3⟩
theorem HL.set{vs:List Value}{q:Pr}(h:HL M w ps vs)(hk:ps[k]? =some p)(hq:∀u,p.h M w u->q.h M w u):HL M w (ps.set k q) vs:=by
 refine So (by rw[h.length];simp) fun k' p' hk'=>?_;rw[List.getElem?_set]at hk'
 split at hk'
 .
  rename_i e1
  subst e1
  split at hk'
  .
   obtain⟨u,hu,dy⟩:=h.at_ k p hk;simp at hk';subst hk';exact⟨u,hu,hq u dy⟩
  .cases hk'
 .exact h.at_ k' p' hk'
theorem A0.L8{sz b:Nat}(h:A0 M0 w0 S rs M w)(hi:rs[i]? =some (AF new b T ps))(hj:rs[j]? =some (CL e sz rows v))(hij:j≠i)(hk:ps[k]? =some (is v))(hl:∀r∈rows,r.length=sz):
  ∃M',Ext M w M' w/\A0 M0 w0 S ((rs.set j Bj).set i (AF new b T (ps.set k (slice sz rows)))) M' w:=by
 obtain⟨M',h1,h2,h3⟩:=h.Zw hj hl;have hi':(rs.set j Bj)[i]? =some (AF new b T ps):=by grind
 refine⟨M',h1,h2.DG hi' rfl rfl ?_⟩;obtain⟨g1,cs,g2,g3,g4⟩:=(h2.hold _ (List.mem_of_getElem? hi')).1;exact⟨g1,cs,g2,g3.set hk (fun u hu=>by rw[show u=v from hu];exact h3),g4⟩
def part(sz:Nat)(v:Value)(k:Nat):Pr where
 h _ _ u:=∃a m c,v= .slice a m c/\k<=m/\u= .slice (if c=k then a else a.map fun x=>x.add (k*sz)) (m-k) (c-k)
 st _M _w _M' _w' _v _ h:=h
instance mO (sz:Nat)(v:Value)(k:Nat):One (part sz v k):=⟨by rintro M w u ⟨a,m,c,h1,h2,rfl⟩;exact⟨rfl,rfl⟩⟩
theorem BW.jI{args:List Pr}{sz:Nat}{R:At}(hl:∀r∈rows,r.length=sz)(h:BW P f args (lens m) R (fun v=>BM e sz rows v)):BW P f args (slice sz rows) R (fun _=>Bj):=by
 refine⟨h.1,fun M0 w0 S rs M w vs hI hv=>(h.2 M0 w0 S rs M w vs hI hv).mono ?_⟩;rintro e' w' ⟨v,M',rfl,h2,h3,h4⟩;obtain⟨M2,j1,j2,j3⟩:=A0.Zq (j:=0) h4 rfl hl;exact⟨v,M2,rfl,j3,h3.trans j1,j2.blank (j:=0) rfl⟩
theorem BW.mP{args:List Pr}{sz:Nat}{R:At}(hl:∀r∈rows,r.length=sz)(h:BW P f args (lens m) R (fun v=>Cq e sz rows v)):BW P f args (slice sz rows) R (fun _=>Bj):=
 BW.jI hl (BW.RR h)
theorem BW.L9{sz:Nat}{res:Pr}{R:At}(h0:rows≠[])(h:BW P f ps res R (fun v=>Cq e sz rows v)):BW P f ps res R (fun v=>CL e sz rows v):=by
 refine⟨h.1,fun M0 w0 S rs M w vs hI hv=>(h.2 M0 w0 S rs M w vs hI hv).mono ?_⟩;rintro e' w' ⟨v,M',rfl,h2,h3,h4⟩;refine⟨v,M',rfl,h2,h3,?_⟩;have hpos:=List.length_pos_iff.2 h0;obtain⟨b,cap,spare,rfl,hnc,hcm,hsp,Wn⟩:=(h4.hold _ (List.mem_cons_self ..)).1;cases cap with
 |zero=>omega
 |succ cap=>exact h4.DG (i:=0) rfl rfl rfl (.inr ⟨b,cap,spare,rfl,hnc,hcm,hsp,Wn⟩)
theorem BW.Po{sz sz':Nat}(h:Am P f ps (full sz' [])):BW P f ps (lens 0) Bj (fun v=>CL e sz [] v):=by
 refine⟨h.1,fun M0 w0 S rs M w vs hI hv=>(h.2 M w vs hI.bd hv).mono ?_⟩;rintro e' w' ⟨v,rfl,⟨_,a,rfl⟩,h3⟩;refine⟨_,M,rfl,⟨_,_,rfl⟩,Ext.below h3,?_⟩;have O5:A0 M0 w0 S (Bj::rs) M w':=(Hp M0 w0 S _).st _ _ _ h3 hI;exact O5.DG (i:=0) (r':=CL e sz [] (.slice a 0 0)) rfl (by cases a<;>rfl) rfl (.inl ⟨rfl,a,rfl⟩)
def jN(sz:Nat)(v:Value)(i o:Nat):Pr where
 h _ _ u:=∃a m c,v= .slice (some a) m c/\u= .pointer (some (a.add (i*sz+o)))
 st _M _w _M' _w' _v _ h:=h
instance qB (sz:Nat)(v:Value)(k o:Nat):One (jN sz v k o):=⟨by rintro M w u ⟨a,m,c,h1,rfl⟩;exact⟨rfl,rfl⟩⟩
theorem OZ{t:TypeId}{y:Operand}{k:IntKind}{l:Int}{sz:Nat}(ho:o.op= .indexAddr t x y)(ht:P.underlying t=some (.slice e))(hz:Ar P e=some sz)(hx:VL E x (is v))(hy:VL E y (is (.int k l)))(h0:0<=l)(hl:l<rows.length):
  Jv P M0 w0 S j (SR.c (CL T sz rows v)) o E (jN sz v l.toNat 0):=by
 intro M w a rs he hI hj;have h1:a.eval x=v:=hx.ev he Ax;have h3:a.eval y= .int k l:=hy.ev he Ax;have hj':rs[j]? =some (CL T sz rows v):=hj;rcases(hI.hold _ (List.mem_of_getElem? hj')).1 with⟨rfl,A,hv⟩|⟨b,cap,spare,hv,hnc,hcm,hsp,Wn⟩
 .simp at hl;omega
 .
  have hrun:(execOp a.eval o).run P w= .ok (.value (.pointer (some ((⟨b,0,none⟩:Addr).add (l.toNat*sz))))) w:=by
   simp[execOp,ho,h1,h3,hv,Instr.indexAt,asIntOf,run_underlying ht,B_ hz,h0,hl]
  rw[hrun];exact⟨⟨_,_,_,hv,rfl⟩,Below.refl _ _⟩
theorem RT{I:B3}{t:TypeId}{f sz q off:Nat}(ho:o.op= .fieldAddr t x f)(hf:AX P t f=some off)(hx:VL E x (jN sz v i q)):Ac P I o E (jN sz v i (q+off)):=
 Ac.same fun M w a he _=>by
  obtain⟨a0,m0,c0,hv,h1⟩:=hx.ev he Ax;exact⟨.pointer (some ((a0.add (i*sz+q)).add off)),by simp[execOp,ho,h1,G_ hf],a0,m0,c0,hv,by rw[add_add,Nat.add_assoc]⟩
theorem NM{t:TypeId}{sz:Nat}{row:List Pr}(ho:o.op= .load t x)(ht:D5 P t=true)(hz:Ar P t=some sz)(hx:VL E x (jN sz v i 0))(hl:∀r∈rows,r.length=sz)(hi:rows[i]? =some row):
  Jv P M0 w0 S j (SR.c (CL T sz rows v)) o E (agg row):=by
 intro M w a rs he hI hj;obtain⟨a0,m0,c0,Yv,h1⟩:=hx.ev he Ax;rw[Nat.add_zero]at h1;have hj':rs[j]? =some (CL T sz rows v):=hj;rcases(hI.hold _ (List.mem_of_getElem? hj')).1 with⟨rfl,A,hv⟩|⟨b,cap,spare,hv,hnc,hcm,hsp,⟨_,cs,h4,h5,h6⟩⟩
 .simp at hi
 .
  rw[Yv]at hv
  injection hv with e1 e2 e3
  injection e1 with e1
  subst e1;have Ey:=BO hi;have hrl:=hl row (List.mem_of_getElem? hi);have hfl:=DA hl;have hle:(i+1)*sz<=rows.length*sz:=Nat.mul_le_mul_right sz Ey;rw[Nat.add_mul]at hle
  have h7:HL M w row ((cs.drop (i*sz)).take sz):=by
   have h8:=(h5.drop (i*sz)).take sz
   have e4:((rows.flatten++spare.map is).drop (i*sz)).take sz=row:=by
    refine List.ext_getElem? fun j=>?_;rw[List.getElem?_take]
    split
    .
     rename_i hj
     rw[List.getElem?_drop,List.getElem?_append_left (by rw[hfl];omega),Hs hl hi hj]
    .grind
   rwa [e4]at h8
  have hl':((cs.drop (i*sz)).take sz).length=sz:=by rw[h7.length,hrl]
  have hrun:(loadCells ((⟨b,0,none⟩:Addr).add (i*sz)) sz).run P w= .ok ((cs.drop (i*sz)).take sz).toArray w:=by
   have:=run_loadCells_list (P:=P) w ((⟨b,0,none⟩:Addr).add (i*sz)) ((cs.drop (i*sz)).take sz) (fun k u hk=>by
    rw[add_add,FG];rw[List.getElem?_take]at hk
    split at hk
    .rw[List.getElem?_drop]at hk;simp[World.cell?,h4,hk]
    .cases hk)
   rwa [hl']at this
  have Di:(execOp a.eval o).run P w= .ok (.value (.agg ((cs.drop (i*sz)).take sz).toArray)) w:=by simp[execOp,ho,h1,Instr.loadAt,Instr.sureAddr,loadVar,Df ht,B_ hz,hrun]
  rw[Di];exact⟨⟨_,rfl,fun c hc=>h6 c (List.mem_of_mem_drop (List.mem_of_mem_take hc)),h7⟩,Below.refl _ _⟩
theorem Pp{sz:Nat}:∀{rows:List (List Pr)} {i:Nat} {row:List Pr} {o:Nat} {qs S:List Pr},(∀r∈rows,r.length=sz)->rows[i]? =some row->o+qs.length<=sz->
  (rows.flatten++S).take (i*sz+o)++qs++(rows.flatten++S).drop (i*sz+o+qs.length)=(rows.set i (row.take o++qs++row.drop (o+qs.length))).flatten++S
 |[],_,_,_,_,_,_,h,_=>by simp at h
 |a::l,0,row,o,qs,S,hl,h,ho=>by
  simp at h;subst h;have h1:=hl a AO;rw[List.set_cons_zero,List.flatten_cons,List.flatten_cons,Nat.zero_mul,Nat.zero_add,List.append_assoc a,List.take_append_of_le_length AA,List.drop_append_of_le_length AA];simp
 |a::l,i+1,row,o,qs,S,hl,h,ho=>by
  have h1:=hl a AO;have ih:=Pp (S:=S) (fun r hr=>hl r (List.mem_cons_of_mem _ hr)) (i:=i) (row:=row) (o:=o) (qs:=qs) EP ho
  rw[List.set_cons_succ, List.flatten_cons, List.flatten_cons, List.append_assoc a, List.append_assoc a, ← ih, List.take_append, List.drop_append, List.take_of_length_le (by rw[h1, Nat.succ_mul]; omega), List.drop_of_length_le (by rw[h1, Nat.succ_mul]; omega),
   show(i+1)*sz+o-a.length=i*sz+o by rw[h1,Nat.succ_mul];omega,show(i+1)*sz+o+qs.length-a.length=i*sz+o+qs.length by rw[h1,Nat.succ_mul];omega]
  simp
theorem L_{t:TypeId}{y:Operand}{sz q:Nat}{rows':List (List Pr)}{row:List Pr}(hg:o.guard=none)(ho:o.op= .store t x y)(hx:VL E x (jN sz v i q))(hy:VL E y (C6 qs))(hz:Ar P t=some m)(hm:qs.length=m)(hl:∀r∈rows,r.length=sz)(hi:rows[i]? =some row)(hq:q+m<=sz)(hps:rows.set i (row.take q++qs++row.drop (q+m))=rows'):DW P M0 w0 S n j (SR.c (CL T sz rows v)) (SR.c (CL T sz rows' v)) o E any:=by
 refine⟨hg,fun M w a rs hsz he hI hj=>?_⟩;obtain⟨a0,m0,c0,Yv,h1⟩:=hx.ev he (show x∈o.op.operands.toList by simp[ho,Op.operands]);obtain⟨h2,h3⟩:=hy.ev he (show y∈o.op.operands.toList by simp[ho,Op.operands]);have hj':rs[j]? =some (CL T sz rows v):=hj;have hjl:=BO hj';rcases(hI.hold _ (List.mem_of_getElem? hj')).1 with⟨rfl,A,hv⟩|⟨b,cap,spare,hv,hnc,hcm,hsp,Wn⟩
 .simp at hi
 .
  subst hv
  injection Yv with e1 e2 e3
  injection e1 with e1
  subst e1;have hC:=hI.DG (r':=AF true b T (rows.flatten++spare.map is)) hj' rfl rfl Wn;have hjC:(rs.set j (AF true b T (rows.flatten++spare.map is)))[j]? =some (AF true b T (rows.flatten++spare.map is)):=List.getElem?_set_self hjl;obtain⟨_,cs,h4,h5,h6⟩:=Wn;have kM:=h5.length;have cL:=h2.length;have Ey:=BO hi;have hfl:=DA hl;rw[List.length_append,hfl,List.length_map]at kM;have hle:(i+1)*sz<=rows.length*sz:=Nat.mul_le_mul_right sz Ey;rw[Nat.succ_mul]at hle;have hcells:(a.eval y).cells.size=m:=by rw[←hm,←cL];simp
  have hrun:(storeCells ((⟨b,0,none⟩:Addr).add (i*sz+q)) (a.eval y).cells.toList 0).run P w= .ok () (w.setRow b (cs.take (i*sz+q)++(a.eval y).cells.toList++cs.drop (i*sz+q+m)).toArray):=by
   have:=run_storeCells_at (P:=P) b (i*sz+q) T (a.eval y).cells.toList 0 cs.toArray w h4 CU h3;rw[FG,Nat.zero_add]
   simpa[hcells]using this
  have Di:(execOp a.eval o).run P w= .ok .skip (w.setRow b (cs.take (i*sz+q)++(a.eval y).cells.toList++cs.drop (i*sz+q+m)).toArray):=by
   simp[execOp,ho,h1,Instr.storeAt,Instr.sureAddr,storeVar,B_ hz,hcells,hrun]
  rw[Di];have hfs:=Pp (S:=spare.map is) hl hi (o:=q) (qs:=qs) AA;rw[hm,hps]at hfs
  obtain⟨h7, h8⟩ := A0.write (qs := rows'.flatten ++ spare.map is) (cs := cs.take (i * sz + q) ++ (a.eval y).cells.toList ++ cs.drop (i * sz + q + m)) hC hjC (by rw[← hfs]; exact(((h5.take (i * sz + q)).app h2)).app (h5.drop (i * sz + q + m)))
   (fun c hc=>by
    simp only[List.mem_append]at hc;rcases hc with(hc|hc)|hc
    .grind
    .exact h3 c hc
    .exact h6 c (List.mem_of_mem_drop hc))
  rw[List.set_set]at h7;refine⟨M,trivial,h8,?_⟩;have hlen:rows'.length=rows.length:=by rw[←hps,List.length_set]
  have h9:=h7.DG (r':=CL T sz rows' (.slice (some ⟨b,0,none⟩) rows.length (cap+1))) (List.getElem?_set_self hjl) rfl rfl (.inr ⟨b,cap,spare,by rw[hlen],by rw[hlen];exact hnc,hcm,by rw[hlen];exact hsp,(h7.hold _ (List.mem_of_getElem? (List.getElem?_set_self hjl))).1⟩);rw[List.set_set]at h9;exact h9
theorem A0.dL:∀{l:List At} {M:Av} {w:World},A0 M0 w0 S (l++rs) M w->A0 M0 w0 S rs M w
 |[],_,_,h=>h
 |_::l,_,_,h=>A0.dL (l:=l) h.Gs
end
section
variable{P:Program}{L:Lg P}{E:Env}{I:B3}{o:Oper}
theorem RU {fn : Func} {y : Operand} {a : List UInt8} {c : UInt8} (ho : o.op = .call { callee := .value (.func f), args := #[x, y], argTypes := ts }) (hf : P.funcs[f]? = some fn) (hname : (fn.name == "runtime.NumGoroutine") = false) (hb : fn.body.isNone = true) (hn : Extern.findNext fn = none) (hex : Extern.find fn = some Extern.BytealgIndexByte.indexByte) (hx : VL E x (str a)) (hy : VL E y (is (.int .u8 ((c.toNat : Nat) : Int)))) : Ac P I o E (int (Lib.indexByte a c)) :=
 Ac.same fun M w ac he _=>by
  have h1:ac.eval x=_:=hx.ev he Cb;have h2:ac.eval y=_:=hy.ev he Cb;have h3:ac.eval (.func f)= .func (.func f) #[] #[]:=rfl;refine⟨_,?_,rfl⟩;have hrun:(execOp ac.eval o).run P w=(callFunc f #[ac.eval x,ac.eval y]).run P w:=by simp[execOp,ho,resolve,Deferred.ofValue,invoke,h3]
  rw[hrun,h1,h2,run_callFunc_extern hf hname hb hn hex,Lib.run_indexByteString];simp
section
variable{n:Fm}{fz:Nat}{M0:Av}{w0:World}{S:Nat->Prop}
theorem J5{t:TypeId}{sz:Nat}{xs:List Operand}(hg:o.guard=none)(hd:o.dst=some d)(hn:d<n)(ho:o.op= .buildSlice t xs.length parts)(hp:parts.toList=(xs.zipIdx 0).map fun x=>(x.2,x.1))(ht:P.underlying t=some (.slice e))(hz:Ar P e=some sz)(Dc:A_ P e=some zs)(hzl:zs.length=sz)(hsz:0<sz)(hx:Me E sz xs rows)(hsmall:xs.length*sz<=16777216)(uU:0<xs.length):DW P M0 w0 S n j (SR.c Bj) ⟨d,Cq e sz rows⟩ o E (lens rows.length):=by
 refine⟨hg,fun M w a rs Ti he hI hj=>?_⟩
 have eC:∀x∈xs,x∈o.op.operands.toList:=by
  intro x hx;simp only[ho,Op.operands,List.mem_map];obtain⟨i,hi,rfl⟩:=List.mem_iff_getElem.1 hx;exact⟨(i,xs[i]),by rw[hp];exact List.mem_map.2 ⟨(xs[i],i),by rw[List.mem_zipIdx_iff_getElem?];simp[hi],rfl⟩,rfl⟩
 obtain⟨h1,h2,h3⟩:=hx.ev he eC;unfold Ar at hz;unfold A_ at Dc;cases hi:P.info? e with
 |none=>rw[hi]at hz;cases hz
 |some i=>
  rw[hi]at hz Dc;simp only[Option.map_some,Option.some.injEq,Option.map_eq_some_iff]at hz Dc;obtain⟨z,SZ,Dc⟩:=Dc;have V5:z.cells.size=sz:=by rw[←hzl,←Dc];simp
  have hparts:(parts.map fun(i,x)=>(i,a.eval x)).toList=((xs.map a.eval).zipIdx 0).map fun x=>(x.2,x.1):=by
   rw[Array.toList_map,hp,List.map_map,List.zipIdx_map,List.map_map];rfl
  have V7 := fill_whole (s := i.size) (by rw[hz]; exact hsz) (xs.map a.eval) ((Array.range (xs.length * i.size)).map (z.cells[· % z.cells.size]!)) (fun v hv => by
   obtain⟨x,hx,rfl⟩:=List.mem_map.1 hv
   rw[hz];exact h2 x hx) AO
  have hpos:¬xs.length*i.size=0:=by rw[hz];exact Nat.ne_of_gt (Nat.mul_pos AA hsz)
  have hrun:=run_buildSlice (P:=P) w t e xs.length (parts.map fun(i,x)=>(i,a.eval x)) _ i z ht hi SZ (by rw[hz];omega) hpos (by rw[hparts];exact V7);have Di:(execOp a.eval o).run P w= .ok (.value (.slice (some ⟨w.heap.size,0,none⟩) xs.length xs.length)) (w.alloc (.cells ((xs.map a.eval).flatMap fun v=>v.cells.toList).toArray e)):=by simp[execOp,ho,hrun]
  rw[Di]
  generalize hcs:(xs.map a.eval).flatMap (fun v=>v.cells.toList)=cs at h3 ⊢
  have hb:Below w.heap.size w (w.alloc (.cells cs.toArray e)):=(Below.refl _ _).alloc (Nat.le_refl _) _
  have hlen:rows.length<=maxLen:=by
   have:xs.length*1<=xs.length*sz:=Nat.mul_le_mul_left _ hsz;unfold maxLen;omega
  have h4:=Ext.below (M:=M) hb
  have ED:Ext M w (fun b o=>M b o\/b=w.heap.size) (w.alloc (.cells cs.toArray e)):=by
   refine⟨h4.size,fun a v hc hm=>⟨fun hx=>?_,(h4.keep a v hc hm).2⟩,fun b o ho hp hm=>⟨fun hx=>?_,(h4.obj b o ho hp hm).2⟩⟩
   .
    rcases hx with hx|hx
    .exact hm hx
    .exact EA
   .
    rcases hx with hx|hx
    .exact hm hx
    .subst hx;simp at ho
  have hs1:(w.alloc (.cells cs.toArray e)).heap.size=w.heap.size+1:=by simp
  have hat:(SR.at_ (a.put o.dst (.slice (some ⟨w.heap.size,0,none⟩) xs.length xs.length)) ⟨d,Cq e sz rows⟩)=Cq e sz rows (.slice (some ⟨w.heap.size,0,none⟩) xs.length xs.length):=by unfold SR.at_ Slot.val;dsimp only;rw[hd,Bq HY]
  refine⟨fun b o=>M b o\/b=w.heap.size,⟨_,_,by rw[h1]⟩,ED,?_⟩;rw[hat];refine hI.replace hj ED hb.os hb.tape hb.output (fun k hk _=>hb.block k hk) rfl (fun b o hm _=> .inl hm) (fun b o hx=>?_) ?_ rfl (fun b hbk=>?_)
  .
   rcases hx with hx|hx
   .have:=hI.bd _ _ hx;omega
   .omega
  .
   refine⟨w.heap.size,rows.length,[],by rw[h1],Nat.le_refl _,hlen,by simp,fun o=> .inr rfl,cs,heap_alloc_new w _,?_,h3.2.1⟩
   simpa using(h3.st ED).hl hsz
  .
   have Dw:some w.heap.size=some b:=hbk
   injection Dw with e1
   subst e1;exact⟨by rw[hs1];omega,.inr (Nat.le_refl _)⟩
end
theorem Zx(p:Pr)[One p]:Pr.le p (C6 [any]):=fun M w v h=>by
 obtain⟨h1,h2⟩:=AH p M w v h;refine⟨?_,h2⟩
 match v.cells.toList,h1 with
 |[_],_=>exact⟨trivial,trivial⟩
theorem Zy{off:Nat}(h:ps[off]? =some any):ps.take off++[any]++ps.drop (off+1)=ps:=by
 have hl:=BO h;rw[List.getElem?_eq_getElem hl]at h;simp only[Option.some.injEq]at h
 conv=>rhs;rw[←List.take_append_drop off ps,List.drop_eq_getElem_cons hl,h]
 simp
end
def allI(p:Nat->Bool)(n:Nat):Bool:=(List.range n).all p
theorem Be{p:Nat->Bool}{n:Nat}:allI p n=true↔∀j,j<n->p j=true:=by unfold allI;simp
theorem JF{p:Nat->Bool}{n:Nat}(h:∀j,j<n->p j=true):allI p n=true:=Be.2 h
theorem D_{p:Nat->Bool}{n:Nat}(hk:k<n)(h:p k=false):allI p n=false:=by
 rw[Bool.eq_false_iff];intro h';rw[Be.1 h' k hk]at h;cases h
theorem Bi{p:Nat->Bool}(h:∀j,j<k->p j=true)(hk:p k=true):∀j,j<k+1->p j=true:=by
 intro j hj
 by_cases e:j=k
 .subst e;exact hk
 .exact h j AA
section
variable{P:Program}{L:Lg P}{n:Fm}{fz:Nat}{I:B3}
def mQ(P:Program)(I':B3)(M:Av)(w:World)(p:Pr):Result Next->Prop
 | .ok (.value v) w'=>∃M',p.h M' w' v/\Ext M w M' w'/\I'.h M' w'
 | .ok .skip w'=>∃M',p.h M' w' undef/\Ext M w M' w'/\I'.h M' w'
 | .ok (.enter f args) w'=>Calls P f args w' fun e w''=>∃v M',e= .returned v/\p.h M' w'' v/\Ext M w M' w''/\I'.h M' w''
 |_=>False
def Wr(P:Program)(n:Fm)(I I':B3)(o:Oper)(E:Env)(p:Pr):Prop:=o.guard=none/\∀M w (a:Act),a.tmps.size=n.sz->CI M w E o a->I.h M w->mQ P I' M w p ((execOp a.eval o).run P w)
def NN(P:Program)(n:Fm)(I:B3)(ops:Array Oper):Nat->List Oper->Env->(B3->Env->Prop)->Prop
 |_,[],_,_=>False
 |0,o::r,E,K=>∃p I',Wr P n I I' o E p/\(∀d,o.dst=some d->d<n)/\Ch P n I' ops r (upd o p E) (K I')
 |c+1,o::r,E,K=>∃p,Vu P I ops o E p/\(∀d,o.dst=some d->d<n)/\NN P n I ops c r (upd o p E) K
theorem NN.op{r:List Oper}{E:Env}{K:B3->Env->Prop}{c:Nat}(hg:o.guard=none)(hd:o.dst=some d)(hn:d<n)(h:Ac P I o E p)(k:NN P n I ops c r ((d,p)::E) K):NN P n I ops (c+1) (o::r) E K:=
 ⟨p,by unfold Vu;rw[hg];exact h,fun d' hd'=>by rw[hd]at hd';cases hd';exact hn,by unfold upd;rw[hd];exact k⟩
theorem NN.turn{r:List Oper}{E:Env}{K:B3->Env->Prop}(I':B3)(hd:o.dst=some d)(hn:d<n)(h:Wr P n I I' o E p)(k:Ch P n I' ops r ((d,p)::E) (K I')):NN P n I ops 0 (o::r) E K:=
 ⟨p,I',h,fun d' hd'=>by rw[hd]at hd';cases hd';exact hn,by unfold upd;rw[hd];exact k⟩
def Ws(P:Program)(f:FuncId)(args:List Pr)(pre:List At)(res:Pr)(post:List At):Prop:=JE (α:=Unit) P f args pre (fun _=>True) (fun _=>res) (fun _=>post)
section
variable{M0:Av}{w0:World}{S:Nat->Prop}{rs:List At}{E:Env}{o:Oper}{g:Func}{M1:Av}{w1:World}
theorem Ws.of {c : Code} {pre post : List At} {res : Pr} (hf : P.funcs[f]? = some g) (hb : g.body = some c) (hname : (g.name == "runtime.NumGoroutine") = false) (hlen : ps.length ≤ g.ntmps) (h : ∀ M0 w0 S rs M1 w1, Tr (Qc P) g.ntmps (IQ 0 ps) (Hp M0 w0 S (pre ++ Ah M1 w1 :: rs)) c (bodyPost P g (NL M0 w0 S rs M1 w1 (fun _ : Unit => True) (fun _ => res) (fun _ => post)))) : Ws P f ps pre res post :=
 JE.of hf hb hname hlen h
theorem BW.pure{args:List Pr}{res:Pr}{R':Value->At}(h:BW P f args res Bj R'):Am P f args res:=by
 refine⟨h.1,fun M w vs hb hv=>?_⟩;refine(h.2 M w Hj [] M w vs ((A0.begin hb).G8 (r:=Bj) rfl trivial) hv).mono ?_;rintro e w' ⟨v,M',rfl,h2,h3,h4⟩;exact⟨v,rfl,res.st _ _ _ _ _ (Ext.less h4.m) h2,h4.below⟩
theorem Ss{t:TypeId}{sz:Nat}(ho:o.op= .call { callee:= .builtin .len,args:= #[x],argTypes:= #[t] })(ht:P.underlying t=some (.slice e))(hx:VL E x (is v)):
  Jv P M0 w0 S j (SR.c (CL T sz rows v)) o E (int ((rows.length:Nat):Int)):=by
 intro M w a rs he hI hj;have h1:a.eval x=v:=hx.ev he Cb;have hj':rs[j]? =some (CL T sz rows v):=hj
 have hrun:∃A c,v= .slice A rows.length c:=by
  rcases(hI.hold _ (List.mem_of_getElem? hj')).1 with⟨rfl,A,hv⟩|⟨b,cap,spare,hv,_⟩
  .exact⟨_,_,hv⟩
  .exact⟨_,_,hv⟩
 obtain⟨A,c,hv⟩:=hrun
 have:(execOp a.eval o).run P w= .ok (.value (.int .i64 ((rows.length:Nat):Int))) w:=by
  simp[execOp,ho,resolve,invoke,builtin,Builtin.len_,h1,hv,run_underlying ht,goInt]
 rw[this];exact⟨rfl,Below.refl _ _⟩
end
end
section
variable{P:Program}{L:Lg P}{n:Fm}{fz:Nat}{E:Env}{M0:Av}{w0:World}{S:Nat->Prop}{rs:List At}{o:Oper}
def mR(b off m:Nat):Pr where
 h _ _ u:=∃o c,u= .slice (some ⟨b,o,none⟩) m c/\(0<m->o=off)
 st _M _w _M' _w' _v _ h:=h
instance jO (b off m:Nat):One (mR b off m):=⟨by rintro M w u ⟨o,c,rfl,_⟩;exact⟨rfl,rfl⟩⟩
theorem JG{I:B3}{t:TypeId}{y:Operand}{sz sz1 sz2:Nat}(ho:o.op= .call { callee:= .builtin .append,args:= #[x,y],argTypes:= #[t,t] })(ht:P.underlying t=some (.slice e))(hz:Ar P e=some sz)(hx:VL E x (full sz1 []))(hy:VL E y (slice sz2 [])):Ac P I o E (full sz []):=
 Ac.same fun M w a he _=>by
  obtain⟨_,A,h1⟩:=hx.ev he Cb;obtain⟨A',c',h2,_⟩:=hy.ev he Cb;simp only[List.length_nil]at h1 h2;refine⟨.slice A 0 0,?_,Tv sz A M w⟩;have hrun:=El (P:=P) (ty:=o.type) (A:=A) (A':=A') (n:=0) (c:=0) (c':=c') ht hz (Nat.le_refl _) w;simp[execOp,ho,resolve,invoke,builtin,h1,h2,hrun]
end
section
variable{P:Program}{L:Lg P}{n:Fm}{fz:Nat}{E:Env}{M0:Av}{w0:World}{S:Nat->Prop}{rs:List At}{o:Oper}
end
section
variable{P:Program}{L:Lg P}{n:Fm}{fz:Nat}{E:Env}{M0:Av}{w0:World}{S:Nat->Prop}{rs:List At}
theorem St.L8{sz b:Nat}(hi:rs[i]? =some (AF new b T ps))(hj:rs[j]? =some (CL e sz rows v))(hij:j≠i)(hk:ps[k]? =some p)(hp:Pr.le p (is v))(hl:∀r∈rows,r.length=sz)(h:St n E (Hp M0 w0 S rs) a w):
  St n E (Hp M0 w0 S ((rs.set j Bj).set i (AF new b T (ps.set k (slice sz rows))))) a w:=by
 obtain⟨M,h1,h2,h3,h4⟩:=h;have h4:A0 M0 w0 S rs M w:=h4;have hi':(rs.set j (CL e sz rows v))[i]? =some (AF new b T ps):=by rw[List.getElem?_set_ne hij];exact hi
 obtain⟨M',g1,g2,g3⟩:=h4.Zw hj hl;have gi:(rs.set j Bj)[i]? =some (AF new b T ps):=by rw[List.getElem?_set_ne hij];exact hi
 refine⟨M',h1,h2,fun s q hq=>q.st _ _ _ _ _ g1 (h3 s q hq),g2.DG gi rfl rfl ?_⟩;obtain⟨c1,cs,c2,c3,c4⟩:=(g2.hold _ (List.mem_of_getElem? gi)).1;exact⟨c1,cs,c2,c3.set hk (fun u hu=>by rw[show u=v from hp _ _ _ hu];exact g3),c4⟩
theorem Tr.L8{Q:Exit->Act->World->Prop}{c:Code}(i j k:Nat){sz b:Nat}(hi:rs[i]? =some (AF new b T ps))(hj:rs[j]? =some (CL e sz rows v))(hij:j≠i)(hk:ps[k]? =some p)(hp:Pr.le p (is v))(hl:∀r∈rows,r.length=sz)(kk:Tr L n E (Hp M0 w0 S ((rs.set j Bj).set i (AF new b T (ps.set k (slice sz rows))))) c Q):Tr L n E (Hp M0 w0 S rs) c Q:=Tr.conv (fun _ _ hs=>hs.L8 hi hj hij hk hp hl) kk
end
theorem Zz{β:Type}{f:β->List Pr}{l:List β}{q:Nat}{x:β}(h:l[k]? =some x)(hq:(f x).take q++qs++(f x).drop (q+m)=f x):(l.map f).set k ((f x).take q++qs++(f x).drop (q+m))=l.map f:=by
 rw[hq];refine List.ext_getElem? fun i=>?_;rw[List.getElem?_set]
 by_cases hi:k=i
 .
  subst hi;rw[if_pos rfl,List.getElem?_map,h];have:=BO h;rw[if_pos (by rw[List.length_map];exact this)];rfl
 .rw[if_neg hi]
theorem Pq{β:Type}{f:β->List Pr}{l:List β}{q:Nat}{x:β}(h:l[k]? =some x)(hq:(f x).take q++qs++(f x).drop (q+m)=f x):(l.map f).set ((k:Nat):Int).toNat ((f x).take q++qs++(f x).drop (q+m))=l.map f:=by
 rw[Int.toNat_natCast];exact Zz h hq
section
variable{P:Program}{L:Lg P}{n:Fm}{fz:Nat}{E:Env}{M0:Av}{w0:World}{S:Nat->Prop}{rs:List At}{o:Oper}{g:Func}{M1:Av}{w1:World}
theorem Row.hd{ad:Addr}{q:Pr}(h:Row M w ad 0 (p::ps))(hq:∀u,p.h M w u->q.h M w u):Row M w ad 0 (q::ps):=by
 intro j r hr;cases j with
 |zero=>
  simp at hr;subst hr;obtain⟨u,h1,h2,h3,h4⟩:=h 0 p rfl;exact⟨u,h1,h2,h3,hq u h4⟩
 |succ j=>exact h (j+1) r (by simpa using hr)
theorem NO{I:B3}{t:TypeId}{y:Operand}{k:IntKind}{i:Int}{len:Nat}(ho:o.op= .index t x y)(ht:P.underlying t=some (.array len e))(he:DN P e=true)(hz:Ar P e=some 1)(hx:VL E x (agg ps))(hy:VL E y (is (.int k i)))(h0:0<=i)(hl:i<len)(hp:ps[i.toNat]? =some p):Ac P I o E p:=
 Ac.same fun M w ac fO _=>by
  obtain⟨cs,h1,ho1,h2⟩:=hx.ev fO Ax;have h3:ac.eval y=_:=hy.ev fO Ax;obtain⟨u,hu,dy⟩:=h2.at_ i.toNat p hp;refine⟨u,?_,dy⟩;simp[execOp,ho,h1,h3,Instr.index,asIntOf,run_underlying ht,h0,hl,B_ hz,Go.part,De he,hu]
theorem TO.re{Q:Exit->Act->World->Prop}{l:List Oper}{I:B3}(s:Nat){q:Pr}(p:Pr)(hs:E.lookup s=some q)(hl:Pr.le q p)(k:TO P n ops l ((s,p)::E) I Q):TO P n ops l E I Q:=by
 intro m hm a w hst;refine k m hm a w ?_;obtain⟨M,h1,h2,he,h4⟩:=hst;refine⟨M,h1,h2,fun s' r hr=>?_,h4⟩;simp only[List.lookup]at hr
 split at hr
 .
  rename_i e1
  have:s'=s:=by simpa using e1
  subst this;simp only[Option.some.injEq]at hr;subst hr;exact hl _ _ _ (he _ _ hs)
 .exact he _ _ hr
theorem Fin.fT{Q:Exit->Act->World->Prop}{x:Exit}{r r':At}(k:Fin n E (Hp M0 w0 S (r'::r::rs)) Q x):Fin n E (Hp M0 w0 S (r::r'::rs)) Q x:=
 Fin.conv (fun _ _ ⟨M,h1,h2,h3,h4⟩=>⟨M,h1,h2,h3,A0.perm (List.Perm.swap _ _ _) h4⟩) k
def Tw(P:Program)(f:FuncId)(args:List Pr)(res:Value->Pr)(post:Value->List At):Prop:=JE (α:=Value) P f args [] (fun _=>True) res post
theorem Tw.of {c : Code} {res : Value → Pr} {post : Value → List At} (hf : P.funcs[f]? = some g) (hb : g.body = some c) (hname : (g.name == "runtime.NumGoroutine") = false) (hlen : ps.length ≤ g.ntmps) (h : ∀ M0 w0 S rs M1 w1, Tr (Qc P) g.ntmps (IQ 0 ps) (Hp M0 w0 S (Ah M1 w1 :: rs)) c (bodyPost P g (NL M0 w0 S rs M1 w1 (fun _ : Value => True) res post))) : Tw P f ps res post :=
 JE.of hf hb hname hlen h
theorem Fin.sN{rv:ResultVar}{q:Pr}{res:Value->Pr}{post:Value->List At}{rs':List At}(v:Value)(dr:List At)(hr:g.results= #[rv])(h:AZ P E rs' rv q)(hl:Pr.le q (res v))(hp:rs'.Perm (dr++(post v++Ah M1 w1::rs))):
  Fin ⟨fz,[]⟩ E (Hp M0 w0 S rs') (bodyPost P g (NL M0 w0 S rs M1 w1 (fun _:Value=>True) res post)) .ret:=by
 rintro a w ⟨M,_,hd,he,hi⟩;have hi:A0 M0 w0 S rs' M w:=hi;obtain⟨u,hu,hp'⟩:=h M w a he (fun q hq=>(hi.hold q hq).1);obtain⟨h1,h2⟩:=Wq (A0.dL (A0.perm hp hi));exact⟨hd,u,results1 hr hu,_,M,v,rfl,trivial,hl _ _ _ hp',h1,h2⟩
end
section
variable{P:Program}{L:Lg P}{n:Fm}{fz:Nat}{E:Env}{I:B3}{Q:Exit->Act->World->Prop}{ops:Array Oper}{o:Oper}{r:List Oper}{g j:Nat}{b want:Bool}
theorem TO.cases(g:Nat){b:Bool}{l:List Oper}(_hb:E.lookup g=some (bool b))(ht:b=true->TO P n ops l E I Q)(hf:b=false->TO P n ops l E I Q):TO P n ops l E I Q:=by
 cases b
 .exact hf rfl
 .exact ht rfl
theorem TO.mS(hg:o.guard=some (j,want))(hj:(ops[j]?).bind (·.dst)=some g)(hb:E.lookup g=some (bool b))(Jq:b=want)(h:∀(K:Act->World->Prop) M w (a:Act),a.tmps.size=n.sz->a.defers=n.df->Ee M w E a->I.h M w->
  (∀E' I' a' w',TO P n ops r E' I' Q->St n E' I' a' w'->K a' w')->o.wp P a w K Q):TO P n ops (o::r) E I Q:=by
 intro k hl a w hs;have h0:ops[k]? =some o:=by simpa using(hl 0).symm
 obtain⟨M,hn,hd,he,hI⟩:=hs;simp only[List.length_cons,List.range'_succ,wpS,h0];have hy:=GU (M:=M) (w:=w) (b:=some b) hj (he g _ hb);rw[FZ hg hy,if_pos (by simp[Jq])];exact(h _ M w a hn hd he hI fun E' I' a' w' hT hst=>hT (k+1) (fun j=>by have:=hl (j+1);simpa[Nat.add_assoc,Nat.add_comm 1 j]using this) a' w' hst)
theorem TO.dM(hg:o.guard=some (j,want))(hj:(ops[j]?).bind (·.dst)=some g)(hb:E.lookup g=some (bool b))(Jq:b=want)(hd:o.dst=some d)(hn:d<n)(h:Ac P I o E p)(k:TO P n ops r ((d,p)::E) I Q):TO P n ops (o::r) E I Q:=
 TO.mS hg hj hb Jq fun K M w a h1 h2 h3 h4 hK=>by
  refine FC (h M w a (CB h3) h4) fun v w' hv hb'=>hK _ _ _ _ k ⟨M,?_,?_,?_,I.st _ _ _ hb' h4⟩
  .rw[Bo];exact h1
  .rw[put_defers];exact h2
  .
   have:=h3.put (o:=o) (p:=p) hb' hv (fun d' hd'=>by rw[hd]at hd';cases hd';rw[h1];exact hn);rw[show upd o p E=(d,p)::E by unfold upd;rw[hd]]at this;exact this
theorem TO.dN(hg:o.guard=some (j,want))(hj:(ops[j]?).bind (·.dst)=some g)(hb:E.lookup g=some (bool b))(Jq:b≠want)(hd:o.dst=some d)(hn:d<n)(kk:TO P n ops r ((d,is undef)::E) I Q):TO P n ops (o::r) E I Q:=by
 intro k hl a w hs;have h0:ops[k]? =some o:=by simpa using(hl 0).symm
 obtain⟨M,h1,h2,he,hI⟩:=hs;simp only[List.length_cons,List.range'_succ,wpS,h0];have hy:=GU (M:=M) (w:=w) (b:=some b) hj (he g _ hb);rw[FZ hg hy,if_neg (by simp[Jq])];refine kk (k+1) (fun j=>by have:=hl (j+1);simpa[Nat.add_assoc,Nat.add_comm 1 j]using this) _ w ⟨M,by rw[Bo];exact h1,by rw[put_defers];exact h2,?_,hI⟩;have:=he.put (o:=o) (p:=is undef) (v:=undef) (Below.refl w.heap.size w) rfl (fun d' hd'=>by rw[hd]at hd';cases hd';rw[h1];exact hn);rw[show upd o (is undef) E=(d,is undef)::E by unfold upd;rw[hd]]at this;exact this
variable{M0:Av}{w0:World}{S:Nat->Prop}{rs:List At}
theorem TO.mT(i:Nat){R:At}{R':At}(hg:o.guard=some (j,want))(hj:(ops[j]?).bind (·.dst)=some g)(hb:E.lookup g=some (bool b))(Jq:b=want)(hR:rs[i]? =some R)(hd:o.dst=some d)(hn:d<n)(h:DW P M0 w0 S n i (SR.c R) (SR.c R') { o with guard:=none } E p)(k:TO P n ops r ((d,p)::E) (Hp M0 w0 S (rs.set i R')) Q):TO P n ops (o::r) E (Hp M0 w0 S rs) Q:=
 TO.mS hg hj hb Jq fun K M w a hsz hdf he hI hK=>by
  have hw : ({ o with guard := none } : Oper).wp P a w K Q := I7 (h.2 M w a rs hsz (CB he) hI hR) fun v w' M' hv hx O5 => hK _ _ _ _ k ⟨M', by rw[Bo]; exact hsz, by rw[put_defers]; exact hdf, by
   intro s q hq;simp only[List.lookup]at hq
   by_cases hs:s=d
   .subst hs;simp at hq;subst hq;show p.h M' w' ((a.put o.dst v).tmps.getD s undef);rw[hd,Bq Ft];exact hv
   .rw[show(s==d)=false by simpa using hs]at hq;show q.h M' w' ((a.put o.dst v).tmps.getD s undef);rw[hd,Bh hs];exact q.st _ _ _ _ _ hx (he s q hq),O5⟩
  exact hw
end
section
variable{P:Program}{L:Lg P}{E:Env}{I:B3}{o:Oper}
end
end Cp
