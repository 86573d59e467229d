/-
  Part 2 of the texts that prove this claim, merged.
-/
import Derived.ChangeArms
import Derived.OpenShut
import Derived.ChangeSame
import Derived.RowKit
import Derived.ProofKit
import Derived.Laws.MakeOwn
import Derived.Test.YtkobgkelhcigdaaGreatDoorProg
import Derived.KernelRfl
import Derived.Test.YtkobgkelhcigdaaGreatDoorRows
import Derived.Lib.ConvBytes
import Derived.Lib.Bytealg
import Derived.Laws.StructEq
import Derived.Laws.Externs
import Derived.Lib.AtoiErrMem
import Derived.Laws.IdiomRangeMap
import Derived.Sort.LotA
import Derived.Sort.LotB
import Derived.Sort.LotC
import Derived.Lib.AppendZeros
import Derived.Lib.AppendZerosOnto
import Derived.Test.YtkobgkelhcigdaaGreatDoorPnIP1
set_option linter.all false
set_option maxRecDepth 40000
set_option maxHeartbeats 16000000
namespace Cp
open Go Go.RowKit Go.Great Go.ChangeShapes Go.WideShapes
def gO:Av:=fun _ _=>False
theorem nj (w:World):Bd gO w:=fun _ _ h=>h.elim
def LG (P:Program) (t:TypeId) {α:Type} (ok:α→Prop) (f:α→List Pr):Prop:=
 ∀(H:Type) (enc:TypeId×Value→H) (w:World) (fuel:Nat) (cs:List Value) (x:DataW H×List MemPlace),DataW.trod enc P w 0 (fun _=>true) true fuel t cs=some x→∃a,ok a∧HL gO w (f a) cs∧∀c∈cs,c.oneCell'=true
theorem LG.map {P:Program} {t:TypeId} {α β:Type} {ok:α→Prop} {f:α→List Pr} {ok':β→Prop} {f':β→List Pr} (h:LG P t ok f) (g:α→β) (h1:∀a,ok a→ok' (g a)) (h2:∀a,f' (g a)=f a):LG P t ok' f':=by
 intro H enc w fuel cs x hx
 obtain ⟨a,h3,h4,h5⟩:=h H enc w fuel cs x hx
 exact ⟨g a,h1 a h3,by rw [h2];exact h4,h5⟩
theorem YP {P:Program} {t:TypeId} {k:IntKind} (ht:P.underlying t=some (.int k)):LG P t (fun n:Int=>(Lit.int k n).wf=true) (fun n=>[is (.int k n)]):=by
 intro H enc w fuel cs x hx
 obtain ⟨n,rfl,_,hw⟩:=DataW.trod_int ht hx
 exact ⟨n,hw,⟨rfl,trivial⟩,by simp [Value.oneCell']⟩
theorem HL.len {M:Av} {w:World}:∀{ps:List Pr} {vs:List Value},HL M w ps vs→ps.length=vs.length
 |[],[],_=>rfl
 |p::ps,v::vs,h=>by simp [HL.len h.2]
 |[],_::_,h=>h.elim
 |_::_,[],h=>h.elim
theorem HL.nth {M:Av} {w:World}:∀{ps:List Pr} {vs:List Value} (j:Nat) (p:Pr),HL M w ps vs→ps[j]? =some p→∃v,vs[j]? =some v∧p.h M w v
 |p::ps,v::vs,0,q,h,hj=>by simp at hj;subst hj;exact ⟨v,rfl,h.1⟩
 |p::ps,v::vs,j+1,q,h,hj=>by simpa using HL.nth j q h.2 (by simpa using hj)
 |[],[],_,_,_,hj=>by simp at hj
 |[],_::_,_,_,h,_=>h.elim
 |_::_,[],_,_,h,_=>h.elim
theorem OQ {H:Type} {enc:TypeId×Value→H} {P:Program} {w:World} {e:TypeId} {α:Type} {ok:α→Prop} {f:α→List Pr} (he:LG P e ok f) {sz:Nat} (hc:P.cellsOf e=sz) {a:Addr} {m:Nat}:
  ∀(len:Nat),(∀i,i<len→∃y,(w.cells? 0 (a.add (i*sz)) sz).bind (DataW.trod enc P w 0 (fun _=>true) true m e)=some y)→
   ∃l:List α,l.length=len∧(∀z∈l,ok z)∧∀(i:Nat) z,l[i]? =some z→(f z).length=sz∧Row gO w a (i*sz) (f z)
 |0,_=>⟨[],rfl,by simp,by simp⟩
 |len+1,h=>by
  obtain ⟨l,h1,h2,h3⟩:=OQ he hc len (fun i hi=>h i (by omega))
  obtain ⟨y,hy⟩:=h len (by omega)
  obtain ⟨cs,hcs,hy⟩:=Option.bind_eq_some_iff.1 hy
  obtain ⟨z,hz,hl,h1c⟩:=he H enc w m cs y hy
  obtain ⟨_,hlen,hat⟩:=World.cells?_some hcs
  refine ⟨l++[z],by simp [h1],?_,fun i u hu=> ?_⟩
  ·
   intro u hu
   rcases List.mem_append.1 hu with hu|hu
   · exact h2 u hu
   · rw [List.mem_singleton.1 hu];exact hz
  ·
   rcases Nat.lt_trichotomy i len with hi|hi|hi
   ·
    rw [List.getElem?_append_left (by omega)] at hu
    exact h3 i u hu
   ·
    subst hi
    rw [List.getElem?_append_right (by omega),h1] at hu
    simp at hu;subst hu
    have hfl:(f z).length=sz:=by rw [hl.len,hlen]
    refine ⟨hfl,fun j p hp=> ?_⟩
    obtain ⟨v,hv,Z_⟩:=hl.nth j p hp
    have hj:j<sz:=by
     rcases Nat.lt_or_ge j (f z).length with h'|h'
     · omega
     · rw [List.getElem?_eq_none h'] at hp;cases hp
    refine ⟨v,?_,fun hf=>hf,h1c v (List.mem_of_getElem? hv),Z_⟩
    rw [←hv,←hat j hj]
    rw [add_add]
   · rw [List.getElem?_eq_none (by simp [h1];omega)] at hu;cases hu
theorem TG {P:Program} {t e:TypeId} {α:Type} {ok:α→Prop} {f:α→List Pr} {sz:Nat} (ht:P.underlying t=some (.slice e)) (hc:P.cellsOf e=sz) (he:LG P e ok f):
  LG P t (fun l:List α=>(∀z∈l,ok z)∧l.length≤maxLen) (fun l=>[slice sz (l.map f)]):=by
 intro H enc w fuel cs x hx
 rcases DataW.trod_slice ht hx with ⟨rfl,_⟩|⟨a,len,cap,elems,rest,n,rfl,rfl,_,_,hl,hm,hel,hat,_⟩
 · exact ⟨[],⟨by simp,by simp⟩,⟨⟨none,0,rfl,by simp,by simp,fun _=>rfl,by simp⟩,trivial⟩,by simp [Value.oneCell']⟩
 ·
  obtain ⟨l,h1,h2,h3⟩:=OQ (H:=H) (enc:=enc) (w:=w) (a:=a) (m:=n) he hc len (fun i hi=>by
   have:=hat i hi
   rw [hc] at this
   rw [this,List.getElem?_eq_getElem (by omega)]
   exact ⟨_,rfl⟩)
  refine ⟨l,⟨h2,by omega⟩,⟨⟨some a,cap,by simp [h1],by simp;omega,hm,by simp,fun i row hr=> ?_⟩,trivial⟩,by simp [Value.oneCell']⟩
  rw [List.getElem?_map] at hr
  cases hz:l[i]? with
  |none=>rw [hz] at hr;cases hr
  |some z=>
   rw [hz] at hr;simp at hr;subst hr
   obtain ⟨h4,h5⟩:=h3 i z hz
   exact ⟨h4,a,rfl,h5⟩
theorem g_ {H:Type} {enc:TypeId×Value→H} {P:Program} {w:World} {t:TypeId} {α:Type} {ok:α→Prop} {p:α→Pr} (ho:LG P t ok (fun a=>[p a])) {v:Value} {d:DataW H} {ps:List MemPlace} (h:DataW.Trod enc P w 0 (fun _=>true) true t v d ps) (hv:v.cells= #[v]):
  ∃a,ok a∧(p a).h gO w v:=by
 obtain ⟨fuel,hf⟩:=h
 obtain ⟨a,h1,h2,_⟩:=ho _ _ _ _ _ _ hf
 rw [hv] at h2
 exact ⟨a,h1,h2.1⟩
theorem J_ {H:Type} {enc:TypeId×Value→H} {P:Program} (hl:laidOutB P=true) {W W':World} (hb:Below W.heap.size W W'):
  ∀{ts:List TypeId} {vs:List Value} {ds:List (DataW H)} {ps:List MemPlace},ts.all (fun t=>P.readableRec t&&decide (t<P.types.size))=true→DataW.TrodAll enc P W 0 (fun _=>true) true ts vs ds ps→(∀x∈ps,x.block<W.heap.size)→
   DataW.TrodAll enc P W' 0 (fun b=>decide (b<W.heap.size)) true ts vs ds ps
 |[],vs,ds,ps,_,h,_=>by
  obtain ⟨rfl,rfl,rfl⟩:=trodAll_nil h
  rfl
 |t::ts,vs,ds,ps,hr,h,hlt=>by
  obtain ⟨v,vs',d,ds',p,q,rfl,rfl,rfl,h1,h2⟩:=trodAll_cons h
  simp only [List.all_cons,Bool.and_eq_true,decide_eq_true_eq] at hr
  exact ⟨p,q,Below.trod hl hr.1.1 hr.1.2 h1 hb (fun x hx=>hlt x (List.mem_append_left _ hx)),J_ hl hb (by simpa using hr.2) h2 (fun x hx=>hlt x (List.mem_append_right _ hx)),rfl⟩
theorem aN {H:Type} {enc:TypeId×Value→H} {P:Program} {fn:Func} {s:ChangeSpec} {W W':World} {args:Array Value} {ds gs:List (DataW H)} {before p:List MemPlace} {tb:TypeId} (hl:laidOutB P=true)
  (hr:fn.params.toList.all (fun t=>P.readableRec t&&decide (t<P.types.size))=true) (hres:fn.resultTypes= #[tb]) (hb:P.underlying tb=some .bool) (hs:s.vars=[])
  (hA:DataW.TrodAll enc P W 0 (fun _=>true) true fn.params.toList args.toList ds p) (hp:before=p) (hW:DataW.Whole enc P fn.params.toList s.vars false W args.toList ds gs before)
  (hf:s.fn H (ds++gs)={ results:=[.lit (.bool true)],args:=ds }) (aO:Below W.heap.size W W'):s.post enc P fn false true false false W args (.bool true) W':=by
 subst hp
 refine ⟨ds,gs,before,[],before,[],hW,?_,?_,?_,aO.frame _,fun h=>by cases h⟩
 · rw [hf,hres];exact trodAll_mk1 (shut_bool hb _)
 · rw [hf];exact J_ hl aO hr hA (fun x hx=>by simpa using hW.lt x hx)
 · rw [hf,hs];rfl
end Cp
namespace Cp
open Go Go.RowKit Go.Great
section
variable {P:Program} {L:Lg P} {n:Fm} {fz:Nat} {E:Env} {I:CU} {Q:Exit→Act→World→Prop}
theorem Tr.LH {α0:Type} (K:Env) (hK:CD E K) (F:α0→Env) (Ii:α0→CU) (C:α0→Prop) (μ:α0→Nat) {c:Code} (Ht:α0)  (h0:C Ht) (hs:CD E (F Ht)) (hI:∀M w,I.h M w→(Ii Ht).h M w)
  (round:∀x0,C x0→Tr L n (F x0++K) (Ii x0) c (Exit.then (fun a w=>∃DT,(C DT∧μ DT<μ x0)∧St n (F DT++K) (Ii DT) a w) Q)):Tr L n E I (.loop c) Q:=
 Tr.K6 K hK (fun y:α0=>F y) (fun y=>Ii y) (fun y=>C y) (fun y=>μ y) Ht h0 hs hI fun y hy=>
  Tr.post (round y hy) fun e a w h=>by
   cases e<;>first|exact h|(obtain ⟨DT,h1,h2⟩:=h;exact ⟨DT,h1,h2⟩)
theorem Fin.LI {α0:Type} {E1:α0→Env} {I1:α0→CU} {C:α0→Prop} (x0:α0)  (hC:C x0) (hs:CD E (E1 x0)) (hI:∀M w,I.h M w→(I1 x0).h M w):
  Fin n E I (Exit.then (fun a w=>∃DT,C DT∧St n (E1 DT) (I1 DT) a w) Q) .normal:=fun _ _ hst=>⟨x0,hC,hst.sub hs hI⟩
theorem Tr.TH {α0:Type} (K:Env) (hK:CD E K) (F:α0→Value→Env) (Ii:α0→Value→CU) (C:α0→Prop) (μ:α0→Nat) {c:Code} (Ht:α0) (Rk:Value) (h0:C Ht) (hs:CD E (F Ht Rk)) (hI:∀M w,I.h M w→(Ii Ht Rk).h M w)
  (round:∀x0 v0,C x0→Tr L n (F x0 v0++K) (Ii x0 v0) c (Exit.then (fun a w=>∃DT Hu,(C DT∧μ DT<μ x0)∧St n (F DT Hu++K) (Ii DT Hu) a w) Q)):Tr L n E I (.loop c) Q:=
 Tr.K6 K hK (fun y:α0×Value=>F y.1 y.2) (fun y=>Ii y.1 y.2) (fun y=>C y.1) (fun y=>μ y.1) (Ht,Rk) h0 hs hI fun y hy=>
  Tr.post (round y.1 y.2 hy) fun e a w h=>by
   cases e<;>first|exact h|(obtain ⟨DT,Hu,h1,h2⟩:=h;exact ⟨(DT,Hu),h1,h2⟩)
theorem Fin.Wo {α0:Type} {E1:α0→Value→Env} {I1:α0→Value→CU} {C:α0→Prop} (x0:α0) (v0:Value) (hC:C x0) (hs:CD E (E1 x0 v0)) (hI:∀M w,I.h M w→(I1 x0 v0).h M w):
  Fin n E I (Exit.then (fun a w=>∃DT Hu,C DT∧St n (E1 DT Hu) (I1 DT Hu) a w) Q) .normal:=fun _ _ hst=>⟨x0,v0,hC,hst.sub hs hI⟩
theorem Tr.Cy {α0 α1:Type} (K:Env) (hK:CD E K) (F:α0→α1→Env) (Ii:α0→α1→CU) (C:α0→α1→Prop) (μ:α0→α1→Nat) {c:Code} (Ht:α0) (LJ:α1)  (h0:C Ht LJ) (hs:CD E (F Ht LJ)) (hI:∀M w,I.h M w→(Ii Ht LJ).h M w)
  (round:∀x0 x1,C x0 x1→Tr L n (F x0 x1++K) (Ii x0 x1) c (Exit.then (fun a w=>∃DT El,(C DT El∧μ DT El<μ x0 x1)∧St n (F DT El++K) (Ii DT El) a w) Q)):Tr L n E I (.loop c) Q:=
 Tr.K6 K hK (fun y:α0×α1=>F y.1 y.2) (fun y=>Ii y.1 y.2) (fun y=>C y.1 y.2) (fun y=>μ y.1 y.2) (Ht,LJ) h0 hs hI fun y hy=>
  Tr.post (round y.1 y.2 hy) fun e a w h=>by
   cases e<;>first|exact h|(obtain ⟨DT,El,h1,h2⟩:=h;exact ⟨(DT,El),h1,h2⟩)
theorem Fin.C5 {α0 α1:Type} {E1:α0→α1→Env} {I1:α0→α1→CU} {C:α0→α1→Prop} (x0:α0) (x1:α1)  (hC:C x0 x1) (hs:CD E (E1 x0 x1)) (hI:∀M w,I.h M w→(I1 x0 x1).h M w):
  Fin n E I (Exit.then (fun a w=>∃DT El,C DT El∧St n (E1 DT El) (I1 DT El) a w) Q) .normal:=fun _ _ hst=>⟨x0,x1,hC,hst.sub hs hI⟩
theorem Tr.Cm {α0 α1:Type} (K:Env) (hK:CD E K) (F:α0→α1→Value→Env) (Ii:α0→α1→Value→CU) (C:α0→α1→Prop) (μ:α0→α1→Nat) {c:Code} (Ht:α0) (LJ:α1) (Rk:Value) (h0:C Ht LJ) (hs:CD E (F Ht LJ Rk)) (hI:∀M w,I.h M w→(Ii Ht LJ Rk).h M w)
  (round:∀x0 x1 v0,C x0 x1→Tr L n (F x0 x1 v0++K) (Ii x0 x1 v0) c (Exit.then (fun a w=>∃DT El Hu,(C DT El∧μ DT El<μ x0 x1)∧St n (F DT El Hu++K) (Ii DT El Hu) a w) Q)):Tr L n E I (.loop c) Q:=
 Tr.K6 K hK (fun y:α0×α1×Value=>F y.1 y.2.1 y.2.2) (fun y=>Ii y.1 y.2.1 y.2.2) (fun y=>C y.1 y.2.1) (fun y=>μ y.1 y.2.1) (Ht,LJ,Rk) h0 hs hI fun y hy=>
  Tr.post (round y.1 y.2.1 y.2.2 hy) fun e a w h=>by
   cases e<;>first|exact h|(obtain ⟨DT,El,Hu,h1,h2⟩:=h;exact ⟨(DT,El,Hu),h1,h2⟩)
theorem Fin.BT {α0 α1:Type} {E1:α0→α1→Value→Env} {I1:α0→α1→Value→CU} {C:α0→α1→Prop} (x0:α0) (x1:α1) (v0:Value) (hC:C x0 x1) (hs:CD E (E1 x0 x1 v0)) (hI:∀M w,I.h M w→(I1 x0 x1 v0).h M w):
  Fin n E I (Exit.then (fun a w=>∃DT El Hu,C DT El∧St n (E1 DT El Hu) (I1 DT El Hu) a w) Q) .normal:=fun _ _ hst=>⟨x0,x1,v0,hC,hst.sub hs hI⟩
theorem Tr.Iy {α0 α1 α2:Type} (K:Env) (hK:CD E K) (F:α0→α1→α2→Env) (Ii:α0→α1→α2→CU) (C:α0→α1→α2→Prop) (μ:α0→α1→α2→Nat) {c:Code} (Ht:α0) (LJ:α1) (Rl:α2)  (h0:C Ht LJ Rl) (hs:CD E (F Ht LJ Rl)) (hI:∀M w,I.h M w→(Ii Ht LJ Rl).h M w)
  (round:∀x0 x1 x2,C x0 x1 x2→Tr L n (F x0 x1 x2++K) (Ii x0 x1 x2) c (Exit.then (fun a w=>∃DT El HC,(C DT El HC∧μ DT El HC<μ x0 x1 x2)∧St n (F DT El HC++K) (Ii DT El HC) a w) Q)):Tr L n E I (.loop c) Q:=
 Tr.K6 K hK (fun y:α0×α1×α2=>F y.1 y.2.1 y.2.2) (fun y=>Ii y.1 y.2.1 y.2.2) (fun y=>C y.1 y.2.1 y.2.2) (fun y=>μ y.1 y.2.1 y.2.2) (Ht,LJ,Rl) h0 hs hI fun y hy=>
  Tr.post (round y.1 y.2.1 y.2.2 hy) fun e a w h=>by
   cases e<;>first|exact h|(obtain ⟨DT,El,HC,h1,h2⟩:=h;exact ⟨(DT,El,HC),h1,h2⟩)
theorem Fin.EV {α0 α1 α2:Type} {E1:α0→α1→α2→Env} {I1:α0→α1→α2→CU} {C:α0→α1→α2→Prop} (x0:α0) (x1:α1) (x2:α2)  (hC:C x0 x1 x2) (hs:CD E (E1 x0 x1 x2)) (hI:∀M w,I.h M w→(I1 x0 x1 x2).h M w):
  Fin n E I (Exit.then (fun a w=>∃DT El HC,C DT El HC∧St n (E1 DT El HC) (I1 DT El HC) a w) Q) .normal:=fun _ _ hst=>⟨x0,x1,x2,hC,hst.sub hs hI⟩
theorem Tr.E9 {α0 α1 α2:Type} (K:Env) (hK:CD E K) (F:α0→α1→α2→Value→Env) (Ii:α0→α1→α2→Value→CU) (C:α0→α1→α2→Prop) (μ:α0→α1→α2→Nat) {c:Code} (Ht:α0) (LJ:α1) (Rl:α2) (Rk:Value) (h0:C Ht LJ Rl) (hs:CD E (F Ht LJ Rl Rk)) (hI:∀M w,I.h M w→(Ii Ht LJ Rl Rk).h M w)
  (round:∀x0 x1 x2 v0,C x0 x1 x2→Tr L n (F x0 x1 x2 v0++K) (Ii x0 x1 x2 v0) c (Exit.then (fun a w=>∃DT El HC Hu,(C DT El HC∧μ DT El HC<μ x0 x1 x2)∧St n (F DT El HC Hu++K) (Ii DT El HC Hu) a w) Q)):Tr L n E I (.loop c) Q:=
 Tr.K6 K hK (fun y:α0×α1×α2×Value=>F y.1 y.2.1 y.2.2.1 y.2.2.2) (fun y=>Ii y.1 y.2.1 y.2.2.1 y.2.2.2) (fun y=>C y.1 y.2.1 y.2.2.1) (fun y=>μ y.1 y.2.1 y.2.2.1) (Ht,LJ,Rl,Rk) h0 hs hI fun y hy=>
  Tr.post (round y.1 y.2.1 y.2.2.1 y.2.2.2 hy) fun e a w h=>by
   cases e<;>first|exact h|(obtain ⟨DT,El,HC,Hu,h1,h2⟩:=h;exact ⟨(DT,El,HC,Hu),h1,h2⟩)
theorem Fin.Dr {α0 α1 α2:Type} {E1:α0→α1→α2→Value→Env} {I1:α0→α1→α2→Value→CU} {C:α0→α1→α2→Prop} (x0:α0) (x1:α1) (x2:α2) (v0:Value) (hC:C x0 x1 x2) (hs:CD E (E1 x0 x1 x2 v0)) (hI:∀M w,I.h M w→(I1 x0 x1 x2 v0).h M w):
  Fin n E I (Exit.then (fun a w=>∃DT El HC Hu,C DT El HC∧St n (E1 DT El HC Hu) (I1 DT El HC Hu) a w) Q) .normal:=fun _ _ hst=>⟨x0,x1,x2,v0,hC,hst.sub hs hI⟩
theorem Tr.aP {α0 α1 α2 α3:Type} (K:Env) (hK:CD E K) (F:α0→α1→α2→α3→Value→Env) (Ii:α0→α1→α2→α3→Value→CU) (C:α0→α1→α2→α3→Prop) (μ:α0→α1→α2→α3→Nat) {c:Code} (Ht:α0) (LJ:α1) (Rl:α2) (hO:α3) (Rk:Value) (h0:C Ht LJ Rl hO) (hs:CD E (F Ht LJ Rl hO Rk)) (hI:∀M w,I.h M w→(Ii Ht LJ Rl hO Rk).h M w)
  (round:∀x0 x1 x2 x3 v0,C x0 x1 x2 x3→Tr L n (F x0 x1 x2 x3 v0++K) (Ii x0 x1 x2 x3 v0) c (Exit.then (fun a w=>∃DT El HC P_ Hu,(C DT El HC P_∧μ DT El HC P_<μ x0 x1 x2 x3)∧St n (F DT El HC P_ Hu++K) (Ii DT El HC P_ Hu) a w) Q)):Tr L n E I (.loop c) Q:=
 Tr.K6 K hK (fun y:α0×α1×α2×α3×Value=>F y.1 y.2.1 y.2.2.1 y.2.2.2.1 y.2.2.2.2) (fun y=>Ii y.1 y.2.1 y.2.2.1 y.2.2.2.1 y.2.2.2.2) (fun y=>C y.1 y.2.1 y.2.2.1 y.2.2.2.1) (fun y=>μ y.1 y.2.1 y.2.2.1 y.2.2.2.1) (Ht,LJ,Rl,hO,Rk) h0 hs hI fun y hy=>
  Tr.post (round y.1 y.2.1 y.2.2.1 y.2.2.2.1 y.2.2.2.2 hy) fun e a w h=>by
   cases e<;>first|exact h|(obtain ⟨DT,El,HC,P_,Hu,h1,h2⟩:=h;exact ⟨(DT,El,HC,P_,Hu),h1,h2⟩)
theorem Fin.iA {α0 α1 α2 α3:Type} {E1:α0→α1→α2→α3→Value→Env} {I1:α0→α1→α2→α3→Value→CU} {C:α0→α1→α2→α3→Prop} (x0:α0) (x1:α1) (x2:α2) (x3:α3) (v0:Value) (hC:C x0 x1 x2 x3) (hs:CD E (E1 x0 x1 x2 x3 v0)) (hI:∀M w,I.h M w→(I1 x0 x1 x2 x3 v0).h M w):
  Fin n E I (Exit.then (fun a w=>∃DT El HC P_ Hu,C DT El HC P_∧St n (E1 DT El HC P_ Hu) (I1 DT El HC P_ Hu) a w) Q) .normal:=fun _ _ hst=>⟨x0,x1,x2,x3,v0,hC,hst.sub hs hI⟩
theorem Tr.aQ {α0 α1 α2 α3:Type} (K:Env) (hK:CD E K) (F:α0→α1→α2→α3→Value→Value→Env) (Ii:α0→α1→α2→α3→Value→Value→CU) (C:α0→α1→α2→α3→Prop) (μ:α0→α1→α2→α3→Nat) {c:Code} (Ht:α0) (LJ:α1) (Rl:α2) (hO:α3) (Rk:Value) (v1s:Value) (h0:C Ht LJ Rl hO) (hs:CD E (F Ht LJ Rl hO Rk v1s)) (hI:∀M w,I.h M w→(Ii Ht LJ Rl hO Rk v1s).h M w)
  (round:∀x0 x1 x2 x3 v0 v1,C x0 x1 x2 x3→Tr L n (F x0 x1 x2 x3 v0 v1++K) (Ii x0 x1 x2 x3 v0 v1) c (Exit.then (fun a w=>∃DT El HC P_ Hu v1',(C DT El HC P_∧μ DT El HC P_<μ x0 x1 x2 x3)∧St n (F DT El HC P_ Hu v1'++K) (Ii DT El HC P_ Hu v1') a w) Q)):Tr L n E I (.loop c) Q:=
 Tr.K6 K hK (fun y:α0×α1×α2×α3×Value×Value=>F y.1 y.2.1 y.2.2.1 y.2.2.2.1 y.2.2.2.2.1 y.2.2.2.2.2) (fun y=>Ii y.1 y.2.1 y.2.2.1 y.2.2.2.1 y.2.2.2.2.1 y.2.2.2.2.2) (fun y=>C y.1 y.2.1 y.2.2.1 y.2.2.2.1) (fun y=>μ y.1 y.2.1 y.2.2.1 y.2.2.2.1) (Ht,LJ,Rl,hO,Rk,v1s) h0 hs hI fun y hy=>
  Tr.post (round y.1 y.2.1 y.2.2.1 y.2.2.2.1 y.2.2.2.2.1 y.2.2.2.2.2 hy) fun e a w h=>by
   cases e<;>first|exact h|(obtain ⟨DT,El,HC,P_,Hu,v1',h1,h2⟩:=h;exact ⟨(DT,El,HC,P_,Hu,v1'),h1,h2⟩)
theorem Fin.iB {α0 α1 α2 α3:Type} {E1:α0→α1→α2→α3→Value→Value→Env} {I1:α0→α1→α2→α3→Value→Value→CU} {C:α0→α1→α2→α3→Prop} (x0:α0) (x1:α1) (x2:α2) (x3:α3) (v0:Value) (v1:Value) (hC:C x0 x1 x2 x3) (hs:CD E (E1 x0 x1 x2 x3 v0 v1)) (hI:∀M w,I.h M w→(I1 x0 x1 x2 x3 v0 v1).h M w):
  Fin n E I (Exit.then (fun a w=>∃DT El HC P_ Hu v1',C DT El HC P_∧St n (E1 DT El HC P_ Hu v1') (I1 DT El HC P_ Hu v1') a w) Q) .normal:=fun _ _ hst=>⟨x0,x1,x2,x3,v0,v1,hC,hst.sub hs hI⟩
end
structure DS where
 l:List Int
 at_:Nat
 h:at_≤l.length
 h2:l.length≤1000000000
def DS.val (s:DS) (n:Int):Int:=match s.l[s.at_]? with|some x=>x % n|none=>0
def DS.CM (s:DS):DS:=if h:s.at_<s.l.length then ⟨s.l,s.at_+1,h,s.h2⟩ else s
theorem DS.Ci (s:DS) {n:Int} (hn:1≤n):0≤s.val n∧s.val n<n:=by
 unfold DS.val
 split
 · exact ⟨Int.emod_nonneg _ (by omega),Int.emod_lt_of_pos _ (by omega)⟩
 · omega
theorem DS.iC {s:DS} (h:s.l.length≤s.at_) (n:Int):s.val n=0:=by
 unfold DS.val;rw [List.getElem?_eq_none h]
theorem DS.iD {s:DS} (h:s.l.length≤s.at_):s.CM=s:=by
 unfold DS.CM;rw [dif_neg (by omega)]
theorem DS.nk {s:DS} {x:Int} (h:s.l[s.at_]? =some x) (n:Int):s.val n=x % n:=by
 unfold DS.val;rw [h]
theorem DS.nq {s:DS} (h:s.at_<s.l.length):s.CM=⟨s.l,s.at_+1,h,s.h2⟩:=by
 unfold DS.CM;rw [dif_pos h]
def MA (s:DS):List Pr:=[slice 1 (s.l.map fun n=>[int n]),int ((s.at_:Nat):Int)]
def TI (T:TypeId) (b:Nat) (s:DS):Ao:=AB true b T (MA s)
def Hv (T:TypeId) (b:Nat):Ao:=LB true b T (fun _:DS=>True) MA
def DS.of (s:DS) (l:List Int):Int:=(l[(s.val l.length).toNat]?).getD 0
theorem DS.OR (s:DS) {l:List Int} (h:l≠[]):s.of l∈l:=by
 have h0:1≤(l.length:Int):=by
  have:=List.length_pos_iff.2 h
  omega
 have:=s.Ci h0
 unfold DS.of
 rw [List.getElem?_eq_getElem (by omega)]
 exact List.getElem_mem _
section
variable {P:Program} {L:Lg P} {n:Fm} {fz:Nat} {E:Env} {M0:Av} {w0:World} {S:Nat→Prop} {rs:List Ao}
theorem Tr.Qk {Q:Exit→Act→World→Prop} {c:Code} (i:Nat) {T:TypeId} {b:Nat} (hi:rs[i]? =some (Hv T b)) (k:∀s,Tr L n E (Hp M0 w0 S (rs.set i (TI T b s))) c Q):Tr L n E (Hp M0 w0 S rs) c Q:=
 Tr.tL i hi fun s _=>k s
theorem Fin.Qk {Q:Exit→Act→World→Prop} {e:Exit} (i:Nat) {T:TypeId} {b:Nat} (hi:rs[i]? =some (Hv T b)) (k:∀s,Fin n E (Hp M0 w0 S (rs.set i (TI T b s))) Q e):Fin n E (Hp M0 w0 S rs) Q e:=by
 rintro a w ⟨M,h1,h2,h3,h4⟩
 have h4:At M0 w0 S rs M w:=h4
 obtain ⟨x,hx,hh⟩:=(h4.hold _ (List.mem_of_getElem? hi)).1
 exact k x a w ⟨M,h1,h2,h3,h4.Cl hi rfl rfl hh⟩
theorem Fin.GO {Q:Exit→Act→World→Prop} {e:Exit} (i:Nat) {T:TypeId} {b:Nat} (s:DS) {ps:List Pr} (hi:rs[i]? =some (AB true b T ps)) (hp:ps=MA s) (k:Fin n E (Hp M0 w0 S (rs.set i (Hv T b))) Q e):Fin n E (Hp M0 w0 S rs) Q e:=
 Fin.L9 i (fun _=>True) MA s trivial hi hp k
theorem Tr.GO {Q:Exit→Act→World→Prop} {c:Code} (i:Nat) {T:TypeId} {b:Nat} (s:DS) {ps:List Pr} (hi:rs[i]? =some (AB true b T ps)) (hp:ps=MA s) (k:Tr L n E (Hp M0 w0 S (rs.set i (Hv T b))) c Q):Tr L n E (Hp M0 w0 S rs) c Q:=
 Tr.L9 i (fun _=>True) MA s trivial hi hp k
theorem TO.MB {ops:Array Oper} {l:List Oper} {Q:Exit→Act→World→Prop} (s j:Nat) {v:Value} {f:Value→Ao} (g:Nat→Ao) (hs:E.lookup s=some (Ag v (Cp.ex fun b=>ptr b 0))) (hi:rs[j]? =some (f v)) (hf:∀b,f (.pointer (some ⟨b,0,none⟩))=g b)
  (k:∀b,TO P n ops l ((s,ptr b 0)::E) (Hp M0 w0 S (rs.set j (g b))) Q):TO P n ops l E (Hp M0 w0 S rs) Q:=by
 intro k0 hl a w hst
 obtain ⟨M,h1,h2,he,h4⟩:=hst
 obtain ⟨h5,b,h6⟩:=he s _ hs
 have hv:v= .pointer (some ⟨b,0,none⟩):=by rw [←h5];exact h6
 have hj:rs.set j (g b)=rs:=by
  have hjl:j<rs.length:=by rcases Nat.lt_or_ge j rs.length with h|h;exact h;rw [List.getElem?_eq_none h] at hi;cases hi
  rw [←hf b,←hv]
  rw [List.getElem?_eq_getElem hjl] at hi
  simp at hi
  rw [←hi,List.set_getElem_self]
 refine k b k0 hl a w ⟨M,h1,h2,?_,by rw [hj];exact h4⟩
 intro t q hq
 simp only [List.lookup] at hq
 by_cases ht:t=s
 · subst ht;simp at hq;subst hq;exact h6
 · rw [show (t==s)=false by simpa using ht] at hq;exact he t q hq
def GP (r:ResultVar) (a:Act):Sem Value:=match r with| .tmp t=>pure (a.tmps.getD t undef)| .cell c t=>do loadVar t (←asAddr (a.tmps.getD c undef))
def AO (P:Program) (E:Env) (rs:List Ao) (r:ResultVar) (p:Pr):Prop:=∀(M:Av) (w:World) (a:Act),E4 M w E a→(∀q∈rs,q.h M w)→∃v,(GP r a).run P w= .ok v w∧p.h M w v
theorem AO.tmp {t:Tmp} {q p:Pr} (h:E.lookup t=some q) (hl:Pr.le q p):AO P E rs (.tmp t) p:=fun _ _ _ he _=>⟨_,rfl,hl _ _ _ (he _ _ h)⟩
theorem AO.cell (i:Nat) {c:Tmp} {t T:TypeId} {b m:Nat} {new:Bool} {ps:List Pr} {p:Pr} (h:E.lookup c=some (ptr b 0)) (hi:rs[i]? =some (AB new b T ps)) (ht:FU P t=true) (hz:Ay P t=some m) (hm:ps.length=m) (hl:Pr.le (agg ps) p):AO P E rs (.cell c t) p:=by
 intro M w a he hr
 obtain ⟨v,h1,h2⟩:=aI ht hz hm (hr _ (List.mem_of_getElem? hi))
 refine ⟨v,?_,hl _ _ _ h2⟩
 have hc:a.tmps.getD c undef= .pointer (some ⟨b,0,none⟩):=he _ _ h
 unfold GP
 simp only [hc,asAddr]
 simpa [Sem.run_bind] using h1
theorem GQ (g:Func) (a:Act):results g a.tmps=(do let vs ←g.results.mapM (fun r=>GP r a);pure (if h:vs.size=1 then vs[0] else .tuple vs)):=by
 have:(fun r:ResultVar=>GP r a)=(fun| .tmp t=>pure (a.tmps.getD t undef)| .cell c t=>do loadVar t (←asAddr (a.tmps.getD c undef))):=by
  funext r;cases r<;>rfl
 rw [this];rfl
theorem results1 {g:Func} {r:ResultVar} {a:Act} {w:World} {v:Value} (hr:g.results= #[r]) (h:(GP r a).run P w= .ok v w):(results g a.tmps).run P w= .ok v w:=by
 rw [GQ,hr];simp [Sem.run_bind,h]
theorem results2 {g:Func} {r r':ResultVar} {a:Act} {w:World} {v v':Value} (hr:g.results= #[r,r']) (h:(GP r a).run P w= .ok v w) (h':(GP r' a).run P w= .ok v' w):(results g a.tmps).run P w= .ok (.tuple #[v,v']) w:=by
 rw [GQ,hr];simp [Sem.run_bind,h,h']
theorem results3 {g:Func} {r r' r'':ResultVar} {a:Act} {w:World} {v v' v'':Value} (hr:g.results= #[r,r',r'']) (h:(GP r a).run P w= .ok v w) (h':(GP r' a).run P w= .ok v' w) (h'':(GP r'' a).run P w= .ok v'' w):(results g a.tmps).run P w= .ok (.tuple #[v,v',v'']) w:=by
 rw [GQ,hr];simp [Sem.run_bind,h,h',h'']
theorem At.Rm {M:Av} {w:World}:∀{pre:List Ao},At M0 w0 S (pre++rs) M w→At M0 w0 S rs M w
 |[],h=>h
 |_::_,h=>At.Rm h.K_
variable {g:Func} {M1:Av} {w1:World}
theorem Fin.CS {r:ResultVar} {p q:Pr} (hr:g.results= #[r]) (h:AO P E rs r q) (hl:Pr.le q p):Fin ⟨fz,[]⟩ E (Hp M0 w0 FR rs) (bodyPost P g (Rc M0 w0 p)) .ret:=by
 rintro a w ⟨M,_,hd,he,hi⟩
 obtain ⟨v,hv,hp⟩:=h M w a he (fun q hq=>(hi.hold q hq).1)
 obtain ⟨h1,h2⟩:=Bc.DZ M0 w0 M w hi
 exact ⟨hd,v,results1 hr hv,_,rfl,p.st _ _ _ _ _ (Ext.less h1) (hl _ _ _ hp),h2⟩
theorem Fin.BK {r r':ResultVar} {p q q':Pr} (hr:g.results= #[r,r']) (h:AO P E rs r q) (h':AO P E rs r' q') (hl:Pr.le (EK [q,q']) p):Fin ⟨fz,[]⟩ E (Hp M0 w0 FR rs) (bodyPost P g (Rc M0 w0 p)) .ret:=by
 rintro a w ⟨M,_,hd,he,hi⟩
 obtain ⟨v,hv,hp⟩:=h M w a he (fun q hq=>(hi.hold q hq).1)
 obtain ⟨v',iE,hp'⟩:=h' M w a he (fun q hq=>(hi.hold q hq).1)
 obtain ⟨h1,h2⟩:=Bc.DZ M0 w0 M w hi
 exact ⟨hd,_,results2 hr hv iE,_,rfl,p.st _ _ _ _ _ (Ext.less h1) (hl _ _ _ ⟨[_,_],rfl,hp,hp',trivial⟩),h2⟩
theorem Fin.Ev {r r' r'':ResultVar} {p q q' aA:Pr} (hr:g.results= #[r,r',r'']) (h:AO P E rs r q) (h':AO P E rs r' q') (h'':AO P E rs r'' aA) (hl:Pr.le (EK [q,q',aA]) p):Fin ⟨fz,[]⟩ E (Hp M0 w0 FR rs) (bodyPost P g (Rc M0 w0 p)) .ret:=by
 rintro a w ⟨M,_,hd,he,hi⟩
 obtain ⟨v,hv,hp⟩:=h M w a he (fun q hq=>(hi.hold q hq).1)
 obtain ⟨v',iE,hp'⟩:=h' M w a he (fun q hq=>(hi.hold q hq).1)
 obtain ⟨v'',aR,aS⟩:=h'' M w a he (fun q hq=>(hi.hold q hq).1)
 obtain ⟨h1,h2⟩:=Bc.DZ M0 w0 M w hi
 exact ⟨hd,_,results3 hr hv iE aR,_,rfl,p.st _ _ _ _ _ (Ext.less h1) (hl _ _ _ ⟨[_,_,_],rfl,hp,hp',aS,trivial⟩),h2⟩
theorem Fin.Fy (pre:List Ao) {r:ResultVar} {R:Ao} {R':Value→Ao} {p q:Pr} (hr:g.results= #[r]) (h:AO P E (pre++R::Aj M1 w1::rs) r q) (hl:Pr.le q p) (hR:∀M w v,q.h M w v→R' v=R):
  Fin ⟨fz,[]⟩ E (Hp M0 w0 S (pre++R::Aj M1 w1::rs)) (bodyPost P g (OK M0 w0 S rs M1 w1 p R')) .ret:=by
 rintro a w ⟨M,_,hd,he,hi⟩
 obtain ⟨v,hv,hp⟩:=h M w a he (fun q hq=>(hi.hold q hq).1)
 obtain ⟨h1,h2⟩:=gr (At.Rm hi)
 exact ⟨hd,v,results1 hr hv,_,M,rfl,hl _ _ _ hp,h1,by rw [hR _ _ _ hp];exact h2⟩
theorem Fin.mD (pre:List Ao) {r r' r'':ResultVar} {R:Ao} {p q q' aA:Pr} (hr:g.results= #[r,r',r'']) (h:AO P E (pre++R::Aj M1 w1::rs) r q) (h':AO P E (pre++R::Aj M1 w1::rs) r' q') (h'':AO P E (pre++R::Aj M1 w1::rs) r'' aA) (hl:Pr.le (EK [q,q',aA]) p):
  Fin ⟨fz,[]⟩ E (Hp M0 w0 S (pre++R::Aj M1 w1::rs)) (bodyPost P g (OK M0 w0 S rs M1 w1 p (fun _=>R))) .ret:=by
 rintro a w ⟨M,_,hd,he,hi⟩
 obtain ⟨v,hv,hp⟩:=h M w a he (fun q hq=>(hi.hold q hq).1)
 obtain ⟨v',iE,hp'⟩:=h' M w a he (fun q hq=>(hi.hold q hq).1)
 obtain ⟨v'',aR,aS⟩:=h'' M w a he (fun q hq=>(hi.hold q hq).1)
 obtain ⟨h1,h2⟩:=gr (At.Rm hi)
 exact ⟨hd,_,results3 hr hv iE aR,_,M,rfl,hl _ _ _ ⟨[_,_,_],rfl,hp,hp',aS,trivial⟩,h1,h2⟩
theorem AJ {α:Type} {p:α→Pr} {q:Pr} (x:α) (h:Pr.le q (p x)):Pr.le q (Cp.ex p):=fun M w v hv=>⟨x,h M w v hv⟩
theorem AU {φ:Prop} {p q:Pr} (hφ:φ) (h:Pr.le q p):Pr.le q (fact φ p):=fun M w v hv=>⟨hφ,h M w v hv⟩
end
section
variable {P:Program} {L:Lg P} {n:Fm} {fz:Nat} {E:Env} {M0:Av} {w0:World} {S:Nat→Prop} {rs:List SR} {o:Oper}
theorem GH {t:TypeId} {x:Operand} {q:Tmp} {j:Nat} {new:Bool} {b off:Nat} {T:TypeId} {ps:List Pr} {p:Pr} [One p] (hg:o.guard=none) (hd:o.dst=none) (ho:o.op= .store t x (.tmp q)) (hx:VL E x (ptr b off)) (hy:E.lookup q=some p)
  (hz:Ay P t=some 1) (hl:off+1≤ps.length):DI P M0 w0 S n j (SR.c (AB new b T ps)) ⟨q,fun v=>AB new b T (ps.take off++[Ag v p]++ps.drop (off+1))⟩ o E any:=by
 refine ⟨hg,fun M w a rs hsz he hI hj=> ?_⟩
 have h1:a.eval x= .pointer (some ⟨b,off,none⟩):=hx.ev he (by simp [ho,Op.operands])
 have hv:VL E (.tmp q) p:=⟨_,hy,Pr.le_refl _⟩
 have hp:=hv.ev he (show (Operand.tmp q)∈o.op.operands.toList by simp [ho,Op.operands])
 obtain ⟨h2,h3⟩:=(VL.le hv (Ae p)).ev he (show (Operand.tmp q)∈o.op.operands.toList by simp [ho,Op.operands])
 obtain ⟨⟨_,cs,h4,h5,h6⟩,_⟩:=hI.hold _ (List.mem_of_getElem? hj)
 have h5l:=h5.length
 have lu:=h2.length
 have hone:(a.eval (.tmp q)).cells= #[a.eval (.tmp q)]:=(One.one (p:=p) M w _ hp).1
 have h2':HL M w [Ag (a.eval (.tmp q)) p] (a.eval (.tmp q)).cells.toList:=by rw [hone];exact ⟨⟨rfl,hp⟩,trivial⟩
 have hcells:(a.eval (.tmp q)).cells.size=1:=by rw [hone];rfl
 have hrun:(storeCells ⟨b,off,none⟩ (a.eval (.tmp q)).cells.toList 0).run P w= .ok () (w.setRow b (cs.take off++(a.eval (.tmp q)).cells.toList++cs.drop (off+1)).toArray):=by
  have:=run_storeCells_at (P:=P) b off T (a.eval (.tmp q)).cells.toList 0 cs.toArray w h4 (by simp [hcells];omega) h3
  simpa [hcells] using this
 have E7:(execOp a.eval o).run P w= .ok .skip (w.setRow b (cs.take off++(a.eval (.tmp q)).cells.toList++cs.drop (off+1)).toArray):=by
  simp [execOp,ho,h1,Instr.storeAt,Instr.sureAddr,storeVar,Ce hz,hcells,hrun]
 rw [E7]
 obtain ⟨h7, h8⟩ := At.write (qs := ps.take off ++ [Ag (a.eval (.tmp q)) p] ++ ps.drop (off + 1)) (cs := cs.take off ++ (a.eval (.tmp q)).cells.toList ++ cs.drop (off + 1)) hI hj ((((h5.take off).app h2')).app (h5.drop (off + 1)))
  (fun c hc=>by
   simp only [List.mem_append] at hc
   rcases hc with (hc|hc)|hc
   · exact h6 c (List.mem_of_mem_take hc)
   · exact h3 c hc
   · exact h6 c (List.mem_of_mem_drop hc))
 refine ⟨M,trivial,h8,?_⟩
 have hput:SR.at_ (a.put o.dst undef) ⟨q,fun v=>AB new b T (ps.take off++[Ag v p]++ps.drop (off+1))⟩=AB new b T (ps.take off++[Ag (a.eval (.tmp q)) p]++ps.drop (off+1)):=by rw [hd];rfl
 rw [hput];exact h7
theorem aT {j s:Nat} {f:Value→Ao} (hR:rs[j]? =some ⟨s,f⟩) (a:Act):(rs.set j (SR.c (f (a.tmps.getD s undef)))).map (·.at_ a)=rs.map (·.at_ a):=by
 rw [List.map_set]
 apply List.ext_getElem?
 intro i
 rw [List.getElem?_set]
 by_cases hij:j=i
 ·
  subst hij
  rw [if_pos rfl]
  split
  · rw [List.getElem?_map,hR];rfl
  ·
   rename_i hge
   rw [List.getElem?_eq_none (by omega)]
 · rw [if_neg hij]
theorem BH.Ql {Q:Exit→Act→World→Prop} (j i s:Nat) {f g:Value→Ao} {p:Pr} (hR:rs[j]? =some ⟨s,f⟩) (hR':rs[i]? =some ⟨s,g⟩) (hij:j≠i) (hs:E.lookup s=some p) (k:∀v,BH n M0 w0 S ((s,Ag v p)::E) ((rs.set j (SR.c (f v))).set i (SR.c (g v))) Q):BH n M0 w0 S E rs Q:=by
 rintro a w ⟨M,h1,h2,h3,h4⟩
 refine k (a.tmps.getD s undef) a w ⟨M,h1,h2,?_,?_⟩
 ·
  intro t q hq
  simp only [List.lookup] at hq
  by_cases ht:t=s
  · subst ht;simp only [beq_self_eq_true,Option.some.injEq] at hq;subst hq;exact ⟨rfl,h3 t p hs⟩
  · rw [show (t==s)=false by simpa using ht] at hq;exact h3 t q hq
 · rw [aT (rs:=rs.set j (SR.c (f (a.tmps.getD s undef)))) (j:=i) (s:=s) (f:=g) (by rw [List.getElem?_set,if_neg hij];exact hR') a,aT hR a];exact h4
end
section
variable {P:Program} {L:Lg P} {n:Fm} {fz:Nat} {E:Env} {M0:Av} {w0:World} {S:Nat→Prop} {rs:List Ao}
theorem St.Hl (j:Nat) {new:Bool} {b:Nat} {T:TypeId} {ps qs:List Pr} (hi:rs[j]? =some (AB new b T ps)) (h:OL ps qs) {a:Act} {w:World} (hs:St n E (Hp M0 w0 S rs) a w):St n E (Hp M0 w0 S (rs.set j (AB new b T qs))) a w:=by
 obtain ⟨M,h1,h2,h3,h4⟩:=hs
 have h4:At M0 w0 S rs M w:=h4
 obtain ⟨h5,cs,h6,h7,h8⟩:=(h4.hold _ (List.mem_of_getElem? hi)).1
 exact ⟨M,h1,h2,h3,h4.Cl hi rfl rfl ⟨h5,cs,h6,h.hl h7,h8⟩⟩
theorem Tr.Hl {Q:Exit→Act→World→Prop} {c:Code} (j:Nat) {new:Bool} {b:Nat} {T:TypeId} {ps:List Pr} (qs:List Pr) (hi:rs[j]? =some (AB new b T ps)) (h:OL ps qs) (k:Tr L n E (Hp M0 w0 S (rs.set j (AB new b T qs))) c Q):Tr L n E (Hp M0 w0 S rs) c Q:=
 Tr.conv (fun _ _ hs=>hs.Hl j hi h) k
theorem Fin.Hl {Q:Exit→Act→World→Prop} {e:Exit} (j:Nat) {new:Bool} {b:Nat} {T:TypeId} {ps:List Pr} (qs:List Pr) (hi:rs[j]? =some (AB new b T ps)) (h:OL ps qs) (k:Fin n E (Hp M0 w0 S (rs.set j (AB new b T qs))) Q e):Fin n E (Hp M0 w0 S rs) Q e:=
 Fin.conv (fun _ _ hs=>hs.Hl j hi h) k
end
section
variable {P:Program} {L:Lg P} {n:Fm} {fz:Nat} {E:Env} {M0:Av} {w0:World} {S:Nat→Prop} {rs:List Ao}
abbrev Im (m b:Nat):Value:= .slice (some ⟨b,0,none⟩) m m
theorem TO.Rn {ops:Array Oper} {o:Oper} {r:List Oper} {Q:Exit→Act→World→Prop} {d m YQ:Nat} {t e:TypeId} {x y:Operand} {z:Value} (hg:o.guard=none) (hd:o.dst=some d) (hn:d<n) (ho:o.op= .makeSlice t x y) (ht:P.underlying t=some (.slice e))
  (hs:Ay P e=some 1) (hby:Bk P e=some YQ) (hz:BL P e=some [z]) (h1:z.oneCell'=true) (hx:VL E x (int ((m:Nat):Int))) (hy:VL E y (int ((m:Nat):Int))) (hm:m≤maxLen) (hb:YQ*m≤281474976710656)
  (k:∀b,TO P n ops r ((d,is (Im m b))::E) (Hp M0 w0 S (AB true b e ((List.replicate m z).map is)::rs)) Q):TO P n ops (o::r) E (Hp M0 w0 S rs) Q:=
 TO.YK hg fun K M w a hsz hdf he hI hK=>by
  have hx1:a.eval x= .int .i64 m:=hx.ev (o:=o) (CH he) (by simp [ho,Op.operands])
  have hy1:a.eval y= .int .i64 m:=hy.ev (o:=o) (CH he) (by simp [ho,Op.operands])
  have hi:∃i,P.info? e=some i∧i.size=1∧i.bytes=YQ∧∃z',i.zero=some z'∧z'.cells= #[z]:=by
   unfold Ay at hs;unfold Bk at hby;unfold BL at hz
   cases hi:P.info? e with
   |none=>rw [hi] at hs;cases hs
   |some i=>
    rw [hi] at hs hby hz
    simp at hs hby hz
    obtain ⟨z',h2,h3⟩:=hz
    exact ⟨i,rfl,hs,hby,z',h2,by rw [←Array.toList_inj,h3]⟩
  obtain ⟨i,hi,hi1,hi2,z',FE,Gf⟩:=hi
  have hmk:madeCells z'.cells m=(List.replicate m z).toArray:=by
   rw [Gf]
   apply Array.ext
   · simp [madeCells]
   ·
    intro j h1 h2
    simp [madeCells,Nat.mod_one]
  have hrun:=run_make (P:=P) w t e i z' ht hi FE .i64 .i64 (m:Int) (m:Int) (by omega) (Int.le_refl _) (by rw [hi2];have h0:((YQ*m:Nat):Int)≤281474976710656:=Int.ofNat_le.2 hb;rw [←Int.natCast_mul];exact h0) (by unfold maxLen at hm;omega)
  rw [hi1] at hrun
  simp only [Int.toNat_natCast,Nat.mul_one] at hrun
  rw [hmk] at hrun
  refine TO.val (v:=Im m w.heap.size) (w':=w.alloc (.cells (List.replicate m z).toArray e)) ?_ ?_
  · simp [execOp,ho,hx1,hy1,hrun]
  ·
   obtain ⟨h2,h3⟩:=At.add (T:=e) hI (J7 M w (List.replicate m z)) (fun c hc=>by rw [List.eq_of_mem_replicate hc];exact h1)
   refine hK _ _ _ _ (k w.heap.size) ⟨_,by rw [Bm];exact hsz,by rw [put_defers];exact hdf,?_,h2⟩
   intro s p hp
   simp only [List.lookup] at hp
   by_cases hs:s=d
   · subst hs;simp at hp;subst hp;rw [hd,Ba (by rw [hsz];exact hn)];rfl
   ·
    rw [show (s==d)=false by simpa using hs] at hp
    rw [hd,BF hs]
    exact p.st _ _ _ _ _ h3 (he s p hp)
theorem BI {I:CU} {o:Oper} {t e:TypeId} {x y:Operand} {k:IntKind} {i:Int} {len cap sz b off:Nat} (ho:o.op= .indexAddr t x y) (ht:P.underlying t=some (.slice e)) (hz:Ay P e=some sz) (hx:VL E x (is (.slice (some ⟨b,off,none⟩) len cap))) (hy:VL E y (is (.int k i)))
  (h0:0≤i) (hl:i<len):Aa P I o E (ptr b (off+i.toNat*sz)):=
 Aa.same fun M w a he _=>by
  have h1:a.eval x=_:=hx.ev he (by simp [ho,Op.operands])
  have h5:a.eval y= .int k i:=hy.ev he (by simp [ho,Op.operands])
  refine ⟨_,?_,rfl⟩
  simp [execOp,ho,h1,h5,Instr.indexAt,asIntOf,run_underlying ht,Ce hz,h0,hl,Fx]
def DL (e:TypeId):List Nat→List (List Pr)→List Ao
 |b::bs,r::E2=>AB true b e r::DL e bs E2
 |_,_=>[]
theorem Qm {e:TypeId} {b:Nat} {r:List Pr}:∀{bs:List Nat} {E2:List (List Pr)},bs.length=E2.length→(DL e (bs++[b]) (E2++[r])).Perm (AB true b e r::DL e bs E2)
 |[],[],_=>List.Perm.refl _
 |c::bs,q::E2,h=>((Qm (by simpa using h)).cons _).trans (List.Perm.swap _ _ _)
 |[],_::_,h=>by simp at h
 |_::_,[],h=>by simp at h
theorem Ro {e:TypeId} {b:Nat} (r':List Pr):∀{i:Nat} {bs:List Nat} {E2:List (List Pr)},bs.length=E2.length→bs[i]? =some b→(DL e bs (E2.set i r')).Perm (AB true b e r'::DL e (bs.eraseIdx i) (E2.eraseIdx i))
 |0,c::bs,q::E2,_,hb=>by simp at hb;subst hb;exact List.Perm.refl _
 |i+1,c::bs,q::E2,h,hb=>((Ro r' (by simpa using h) (by simpa using hb)).cons _).trans (List.Perm.swap _ _ _)
 |_,[],[],_,hb=>by simp at hb
 |_,[],_::_,h,_=>by simp at h
 |_,_::_,[],h,_=>by simp at h
theorem aU {e:TypeId} {b i:Nat} {r:List Pr} {bs:List Nat} {E2:List (List Pr)} (h:bs.length=E2.length) (hb:bs[i]? =some b) (hr:E2[i]? =some r):(DL e bs E2).Perm (AB true b e r::DL e (bs.eraseIdx i) (E2.eraseIdx i)):=by
 have:=Ro (e:=e) r h hb
 rwa [show E2.set i r=E2 by
  have hl:i<E2.length:=by rcases Nat.lt_or_ge i E2.length with h|h;exact h;rw [List.getElem?_eq_none h] at hr;cases hr
  rw [List.getElem?_eq_getElem hl] at hr;simp at hr;rw [←hr,List.set_getElem_self]] at this
theorem Tr.perm {Q:Exit→Act→World→Prop} {c:Code} {rs':List Ao} (hp:rs.Perm rs') (k:Tr L n E (Hp M0 w0 S rs') c Q):Tr L n E (Hp M0 w0 S rs) c Q:=
 Tr.conv (fun _ _ ⟨M,h1,h2,h3,h4⟩=>⟨M,h1,h2,h3,At.perm hp h4⟩) k
theorem Fin.perm {Q:Exit→Act→World→Prop} {ex:Exit} {rs':List Ao} (hp:rs.Perm rs') (k:Fin n E (Hp M0 w0 S rs') Q ex):Fin n E (Hp M0 w0 S rs) Q ex:=
 Fin.conv (fun _ _ ⟨M,h1,h2,h3,h4⟩=>⟨M,h1,h2,h3,At.perm hp h4⟩) k
theorem At.Wp {b:Nat} {T:TypeId} {ps:List Pr} {M:Av} {w:World} (h4:At M0 w0 S (AB true b T ps::rs) M w):∃M',At M0 w0 S rs M' w∧Ext M w M' w∧Row M' w ⟨b,0,none⟩ 0 ps:=by
 obtain ⟨⟨hm,cs,hh,hc,hone⟩,lq⟩:=h4.hold _ (List.mem_cons_self ..)
 obtain ⟨hlt,hnew⟩:=lq b rfl
 have hnew:w0.heap.size≤b:=by simpa [AB] using hnew
 have he:Ext M w (fun b' o=>M b' o∧b'≠b) w:=Ext.less fun _ _ h=>h.1
 obtain ⟨y5,y7⟩:=List.pairwise_cons.1 h4.nd
 refine ⟨fun b' o=>M b' o∧b'≠b,⟨h4.m0,fun b' o' hm'=>⟨h4.m b' o' hm',fun e=> ?_⟩,h4.os,h4.tape,h4.output,h4.size,h4.block,fun b' o' hm'=>h4.bd b' o' hm'.1,fun r hr=> ?_,y7⟩,he,fun j p hp=> ?_⟩
 ·
  subst e
  have:=h4.m0 _ _ hm'
  omega
 ·
  obtain ⟨h5,h6⟩:=h4.hold r (List.mem_cons_of_mem _ hr)
  exact ⟨r.st _ _ _ _ he (fun b' hb'=>⟨rfl,fun o' hmo=>⟨hmo,fun e=>y5 r hr b rfl (by rw [←e];exact hb')⟩⟩) h5,h6⟩
 ·
  obtain ⟨u,hu,gb⟩:=hc.at_ j p hp
  refine ⟨u,?_,fun hx=>hx.2 rfl,hone u (List.mem_of_getElem? hu),p.st _ _ _ _ _ he gb⟩
  rw [show Addr.add ⟨b,0,none⟩ (0+j)=⟨b,j,none⟩ by unfold Addr.add;split<;>simp_all]
  simp [World.cell?,hh,hu]
theorem At.FY {e:TypeId} {w:World}:∀{bs:List Nat} {E2:List (List Pr)} {M:Av},bs.length=E2.length→At M0 w0 S (DL e bs E2++rs) M w→∃M',At M0 w0 S rs M' w∧Ext M w M' w∧∀(i:Nat) b r,bs[i]? =some b→E2[i]? =some r→Row M' w ⟨b,0,none⟩ 0 r
 |[],[],M,_,h=>⟨M,h,Ext.refl _ _,fun i b r hb=>by simp at hb⟩
 |c::bs,q::E2,M,hl,h=>by
  obtain ⟨M1,h1,h2,h3⟩:=At.Wp (rs:=DL e bs E2++rs) h
  obtain ⟨M2,h4,h5,h6⟩:=At.FY (by simpa using hl) h1
  refine ⟨M2,h4,h2.trans h5,fun i b r hb hr=> ?_⟩
  cases i with
  |zero=>simp at hb hr;subst hb;subst hr;exact h3.st h5
  |succ i=>exact h6 i b r (by simpa using hb) (by simpa using hr)
 |[],_::_,_,h,_=>by simp at h
 |_::_,[],_,h,_=>by simp at h
theorem St.FY {e:TypeId} {bs:List Nat} {E2:List (List Pr)} {m s:Nat} {q:Pr} (hl:bs.length=E2.length) (hm:m≤maxLen) (hr:∀r∈E2,r.length=m) (hs:E.lookup s=some q) (hq:Pr.le q (slice 1 (bs.map fun b=>[is (Im m b)])))
  {a:Act} {w:World} (h:St n E (Hp M0 w0 S (DL e bs E2++rs)) a w):St n ((s,slice 1 (E2.map fun r=>[slice 1 (r.map fun p=>[p])]))::E) (Hp M0 w0 S rs) a w:=by
 obtain ⟨M,h1,h2,h3,h4⟩:=h
 obtain ⟨M',h5,h6,h7⟩:=At.FY hl h4
 refine ⟨M',h1,h2,?_,h5⟩
 intro t p hp
 simp only [List.lookup] at hp
 by_cases ht:t=s
 ·
  subst ht
  simp at hp
  subst hp
  obtain ⟨A,cap,h8,h9,h10,h11,h12⟩:=(slice 1 (bs.map fun b=>[is (Im m b)])).st _ _ _ _ _ h6 (hq _ _ _ (h3 t _ hs))
  refine ⟨A,cap,by rw [h8];simp [hl],by simpa [hl] using h9,h10,h11,fun i row hrow=> ?_⟩
  rw [List.getElem?_map] at hrow
  cases htb:E2[i]? with
  |none=>rw [htb] at hrow;cases hrow
  |some r=>
   rw [htb] at hrow
   simp at hrow
   subst hrow
   have FQ:i<bs.length:=by
    rcases Nat.lt_or_ge i E2.length with h|h
    · omega
    · rw [List.getElem?_eq_none h] at htb;cases htb
   obtain ⟨_,ad,Ms,Lz⟩:=h12 i [is (Im m bs[i])] (by rw [List.getElem?_map,List.getElem?_eq_getElem FQ];rfl)
   refine ⟨rfl,ad,Ms,fun j p hp=> ?_⟩
   have hj:j=0:=by
    rcases Nat.eq_zero_or_pos j with h|h
    · exact h
    · rw [List.getElem?_eq_none (by simp;omega)] at hp;cases hp
   subst hj
   simp at hp
   subst hp
   obtain ⟨u,TJ,h16,NN,P4⟩:=Lz 0 _ rfl
   refine ⟨u,TJ,h16,NN,?_⟩
   have hu:u=Im m bs[i]:=P4
   have hrl:=hr r (List.mem_of_getElem? htb)
   refine ⟨some ⟨bs[i],0,none⟩,m,by rw [hu];simp [hrl],by simp [hrl],hm,by simp,fun x row hx=> ?_⟩
   rw [List.getElem?_map] at hx
   cases hrx:r[x]? with
   |none=>rw [hrx] at hx;cases hx
   |some p=>
    rw [hrx] at hx
    simp at hx
    subst hx
    refine ⟨rfl,⟨bs[i],0,none⟩,rfl,fun y p' hy=> ?_⟩
    have hy0:y=0:=by
     rcases Nat.eq_zero_or_pos y with h|h
     · exact h
     · rw [List.getElem?_eq_none (by simp;omega)] at hy;cases hy
    subst hy0
    simp at hy
    subst hy
    have:=h7 i _ r (List.getElem?_eq_getElem FQ) htb x p hrx
    simpa using this
 ·
  rw [show (t==s)=false by simpa using ht] at hp
  exact p.st _ _ _ _ _ h6 (h3 t p hp)
theorem Tr.FY {Q:Exit→Act→World→Prop} {c:Code} {e:TypeId} {bs:List Nat} {E2:List (List Pr)} {m:Nat} (s:Nat) {q:Pr} (hl:bs.length=E2.length) (hm:m≤maxLen) (hr:∀r∈E2,r.length=m) (hs:E.lookup s=some q) (hq:Pr.le q (slice 1 (bs.map fun b=>[is (Im m b)])))
  (k:Tr L n ((s,slice 1 (E2.map fun r=>[slice 1 (r.map fun p=>[p])]))::E) (Hp M0 w0 S rs) c Q):Tr L n E (Hp M0 w0 S (DL e bs E2++rs)) c Q:=
 Tr.conv (fun _ _ h=>h.FY hl hm hr hs hq) k
theorem Tr.TK {Q:Exit→Act→World→Prop} {c:Code} {e:TypeId} {bs:List Nat} {E2:List (List Pr)} {m:Nat} (s:Nat) {q:Pr} (hl:bs.length=E2.length) (hm:m≤maxLen) (hr:∀r∈E2,r.length=m) (hs:E.lookup s=some q) (hq:Pr.le q (slice 1 (bs.map fun b=>[is (Im m b)])))
  (k:Tr L n ((s,slice 1 (E2.map fun r=>[slice 1 (r.map fun p=>[p])]))::E) (Hp M0 w0 S []) c Q):Tr L n E (Hp M0 w0 S (DL e bs E2)) c Q:=
 Tr.conv (fun _ _ h=>St.FY (e:=e) (rs:=[]) hl hm hr hs hq (by rw [List.append_nil];exact h)) k
end
end Cp
namespace Go.Proofs.YtkobgkelhcigdaaGreatDoor
open Go Cp
theorem mixed:Tryz.prog.follows .mixedOrders=true:=by kernel_rfl
theorem z1:BL Tryz.prog 1=some [.nilFunc]:=by kernel_rfl
theorem z2:BL Tryz.prog 2=some [.int .i64 0]:=by kernel_rfl
theorem B4:Ay Tryz.prog 3=some 1:=by kernel_rfl
theorem Cz:D9 Tryz.prog 3=true:=by kernel_rfl
theorem Jf:Bk Tryz.prog 3=some 8:=by kernel_rfl
theorem zo3:([.int .i64 0]:List Value).all (·.oneCell')=true:=by kernel_rfl
theorem z3:BL Tryz.prog 3=some [.int .i64 0]:=by kernel_rfl
theorem S1:Ay Tryz.prog 4=some 1:=by kernel_rfl
theorem YR:D9 Tryz.prog 4=true:=by kernel_rfl
theorem by4:Bk Tryz.prog 4=some 1:=by kernel_rfl
theorem zo4:([.bool false]:List Value).all (·.oneCell')=true:=by kernel_rfl
theorem z4:BL Tryz.prog 4=some [.bool false]:=by kernel_rfl
theorem L1:Ay Tryz.prog 5=some 1:=by kernel_rfl
theorem tN:D9 Tryz.prog 5=true:=by kernel_rfl
theorem Wq:Bk Tryz.prog 5=some 1:=by kernel_rfl
theorem zo5:([.int .u8 0]:List Value).all (·.oneCell')=true:=by kernel_rfl
theorem z5:BL Tryz.prog 5=some [.int .u8 0]:=by kernel_rfl
theorem z6:BL Tryz.prog 6=some [.int .u8 0]:=by kernel_rfl
theorem NO:Ay Tryz.prog 9=some 1:=by kernel_rfl
theorem NP:D9 Tryz.prog 9=true:=by kernel_rfl
theorem by9:Bk Tryz.prog 9=some 16:=by kernel_rfl
theorem zo9:([.string (ByteArray.mk #[])]:List Value).all (·.oneCell')=true:=by kernel_rfl
theorem z9:BL Tryz.prog 9=some [.string (ByteArray.mk #[])]:=by kernel_rfl
theorem z12:BL Tryz.prog 12=some [.int .u64 0]:=by kernel_rfl
theorem z13:BL Tryz.prog 13=some [.string (ByteArray.mk #[]),.int .u64 0]:=by kernel_rfl
theorem z18:BL Tryz.prog 18=some [.pointer none]:=by kernel_rfl
theorem z19:BL Tryz.prog 19=some [.pointer none]:=by kernel_rfl
theorem z20:BL Tryz.prog 20=some [.nilIface]:=by kernel_rfl
theorem MC:Ay Tryz.prog 22=some 1:=by kernel_rfl
theorem Qn:D9 Tryz.prog 22=true:=by kernel_rfl
theorem y8:Bk Tryz.prog 22=some 24:=by kernel_rfl
theorem z22:BL Tryz.prog 22=some [.slice none 0 0]:=by kernel_rfl
theorem z24:BL Tryz.prog 24=some [.nilFunc]:=by kernel_rfl
theorem nr:Ay Tryz.prog 27=some 1:=by kernel_rfl
theorem Qo:D9 Tryz.prog 27=true:=by kernel_rfl
theorem tO:Ay Tryz.prog 28=some 1:=by kernel_rfl
theorem Wr:D9 Tryz.prog 28=true:=by kernel_rfl
theorem nu:Ay Tryz.prog 29=some 1:=by kernel_rfl
theorem aV:D9 Tryz.prog 29=true:=by kernel_rfl
theorem C7:Ay Tryz.prog 31=some 3:=by kernel_rfl
theorem C8:FU Tryz.prog 31=true:=by kernel_rfl
theorem tP:∀ps,Tryz.prog.built 31 ps=Instr.fill (fun i=>(#[(0,1),(1,1),(2,1)]:Array (Nat×Nat))[i]?) ((List.replicate 3 (.slice none 0 0)):List Value).toArray ps:=by intro ps;kernel_rfl
theorem HR:((List.replicate 3 (.slice none 0 0)):List Value).all (·.oneCell')=true:=by kernel_rfl
theorem z31:BL Tryz.prog 31=some (List.replicate 3 (.slice none 0 0)):=by kernel_rfl
theorem Hw:AY Tryz.prog 31 0=some 0:=by kernel_rfl
theorem MD:AY Tryz.prog 31 1=some 1:=by kernel_rfl
theorem ME:AY Tryz.prog 31 2=some 2:=by kernel_rfl
theorem y9:Ay Tryz.prog 32=some 1:=by kernel_rfl
theorem mE:D9 Tryz.prog 32=true:=by kernel_rfl
theorem mF:D9 Tryz.prog 33=true:=by kernel_rfl
theorem B5:Ay Tryz.prog 35=some 3:=by kernel_rfl
theorem CY:FU Tryz.prog 35=true:=by kernel_rfl
theorem MF:∀ps,Tryz.prog.built 35 ps=Instr.fill (fun i=>(#[(0,1),(1,1),(2,1)]:Array (Nat×Nat))[i]?) ((List.replicate 3 (.slice none 0 0)):List Value).toArray ps:=by intro ps;kernel_rfl
theorem FF:((List.replicate 3 (.slice none 0 0)):List Value).all (·.oneCell')=true:=by kernel_rfl
theorem z35:BL Tryz.prog 35=some (List.replicate 3 (.slice none 0 0)):=by kernel_rfl
theorem Uz:AY Tryz.prog 35 0=some 0:=by kernel_rfl
theorem aW:AY Tryz.prog 35 1=some 1:=by kernel_rfl
theorem U0:AY Tryz.prog 35 2=some 2:=by kernel_rfl
theorem z37:BL Tryz.prog 37=some [.nilFunc]:=by kernel_rfl
theorem F9:Ay Tryz.prog 38=some 1:=by kernel_rfl
theorem Ws:D9 Tryz.prog 38=true:=by kernel_rfl
theorem TL:Bk Tryz.prog 38=some 24:=by kernel_rfl
theorem tQ:([.slice none 0 0]:List Value).all (·.oneCell')=true:=by kernel_rfl
theorem z38:BL Tryz.prog 38=some [.slice none 0 0]:=by kernel_rfl
theorem nv:Ay Tryz.prog 39=some 1:=by kernel_rfl
theorem tR:D9 Tryz.prog 39=true:=by kernel_rfl
theorem z39:BL Tryz.prog 39=some [.int .i64 0]:=by kernel_rfl
theorem y_:∀ps,Tryz.prog.built 48 ps=Instr.fill (fun i=>(#[(0,1),(1,1)]:Array (Nat×Nat))[i]?) ([.slice none 0 0,.int .i64 0]:List Value).toArray ps:=by intro ps;kernel_rfl
theorem zA:([.slice none 0 0,.int .i64 0]:List Value).all (·.oneCell')=true:=by kernel_rfl
theorem nw:AY Tryz.prog 48 0=some 0:=by kernel_rfl
theorem n5:AY Tryz.prog 48 1=some 1:=by kernel_rfl
theorem zB:Ay Tryz.prog 51=some 1:=by kernel_rfl
theorem tS:D9 Tryz.prog 51=true:=by kernel_rfl
theorem z51:BL Tryz.prog 51=some [.slice none 0 0]:=by kernel_rfl
theorem CJ:Ay Tryz.prog 53=some 1:=by kernel_rfl
theorem Cu:FU Tryz.prog 53=true:=by kernel_rfl
theorem NQ:∀ps,Tryz.prog.built 53 ps=Instr.fill (fun i=>(#[(0,1)]:Array (Nat×Nat))[i]?) ([.slice none 0 0]:List Value).toArray ps:=by intro ps;kernel_rfl
theorem F_:([.slice none 0 0]:List Value).all (·.oneCell')=true:=by kernel_rfl
theorem z53:BL Tryz.prog 53=some [.slice none 0 0]:=by kernel_rfl
theorem aX:AY Tryz.prog 53 0=some 0:=by kernel_rfl
theorem tT:D9 Tryz.prog 56=true:=by kernel_rfl
theorem TN:Ay Tryz.prog 58=some 3:=by kernel_rfl
theorem Mt:FU Tryz.prog 58=true:=by kernel_rfl
theorem zC:∀ps,Tryz.prog.built 58 ps=Instr.fill (fun i=>(#[(0,1),(1,1),(2,1)]:Array (Nat×Nat))[i]?) ((List.replicate 3 (.slice none 0 0)):List Value).toArray ps:=by intro ps;kernel_rfl
theorem tU:((List.replicate 3 (.slice none 0 0)):List Value).all (·.oneCell')=true:=by kernel_rfl
theorem z58:BL Tryz.prog 58=some (List.replicate 3 (.slice none 0 0)):=by kernel_rfl
theorem n7:AY Tryz.prog 58 0=some 0:=by kernel_rfl
theorem n8:AY Tryz.prog 58 1=some 1:=by kernel_rfl
theorem n9:AY Tryz.prog 58 2=some 2:=by kernel_rfl
theorem aY:D9 Tryz.prog 60=true:=by kernel_rfl
theorem mG:D9 Tryz.prog 61=true:=by kernel_rfl
theorem YS:Ay Tryz.prog 63=some 2:=by kernel_rfl
theorem Qp:FU Tryz.prog 63=true:=by kernel_rfl
theorem zD:∀ps,Tryz.prog.built 63 ps=Instr.fill (fun i=>(#[(0,1),(1,1)]:Array (Nat×Nat))[i]?) ((List.replicate 2 (.slice none 0 0)):List Value).toArray ps:=by intro ps;kernel_rfl
theorem zE:((List.replicate 2 (.slice none 0 0)):List Value).all (·.oneCell')=true:=by kernel_rfl
theorem U1:AY Tryz.prog 63 0=some 0:=by kernel_rfl
theorem aZ:AY Tryz.prog 63 1=some 1:=by kernel_rfl
theorem aa:Ay Tryz.prog 65=some 2:=by kernel_rfl
theorem TP:FU Tryz.prog 65=true:=by kernel_rfl
theorem zF:∀ps,Tryz.prog.built 65 ps=Instr.fill (fun i=>(#[(0,1),(1,1)]:Array (Nat×Nat))[i]?) ([.slice none 0 0,.int .i64 0]:List Value).toArray ps:=by intro ps;kernel_rfl
theorem zG:([.slice none 0 0,.int .i64 0]:List Value).all (·.oneCell')=true:=by kernel_rfl
theorem zH:Ay Tryz.prog 75=some 1:=by kernel_rfl
theorem tV:D9 Tryz.prog 75=true:=by kernel_rfl
theorem af:Ay Tryz.prog 77=some 1:=by kernel_rfl
theorem mH:D9 Tryz.prog 77=true:=by kernel_rfl
theorem B_:Ay Tryz.prog 79=some 9:=by kernel_rfl
theorem Cg:FU Tryz.prog 79=true:=by kernel_rfl
theorem n_:Bk Tryz.prog 79=some 144:=by kernel_rfl
theorem iF:∀ps,Tryz.prog.built 79 ps=Instr.fill (fun i=>(#[(0,1),(1,1),(2,1),(3,1),(4,1),(5,1),(6,1),(7,1),(8,1)]:Array (Nat×Nat))[i]?) ([.string (ByteArray.mk #[]),.int .i64 0,.int .i64 0,.slice none 0 0,.bool false,.slice none 0 0,.slice none 0 0,.slice none 0 0,.bool false]:List Value).toArray ps:=by intro ps;kernel_rfl
theorem Hx:([.string (ByteArray.mk #[]),.int .i64 0,.int .i64 0,.slice none 0 0,.bool false,.slice none 0 0,.slice none 0 0,.slice none 0 0,.bool false]:List Value).all (·.oneCell')=true:=by kernel_rfl
theorem QA:BL Tryz.prog 79=some [.string (ByteArray.mk #[]),.int .i64 0,.int .i64 0,.slice none 0 0,.bool false,.slice none 0 0,.slice none 0 0,.slice none 0 0,.bool false]:=by kernel_rfl
theorem ah:AY Tryz.prog 79 0=some 0:=by kernel_rfl
theorem oG:AY Tryz.prog 79 1=some 1:=by kernel_rfl
theorem U2:AY Tryz.prog 79 2=some 2:=by kernel_rfl
theorem MG:AY Tryz.prog 79 3=some 3:=by kernel_rfl
theorem oH:AY Tryz.prog 79 4=some 4:=by kernel_rfl
theorem OS:AY Tryz.prog 79 5=some 5:=by kernel_rfl
theorem aj:AY Tryz.prog 79 6=some 6:=by kernel_rfl
theorem ak:AY Tryz.prog 79 7=some 7:=by kernel_rfl
theorem oJ:AY Tryz.prog 79 8=some 8:=by kernel_rfl
theorem J1:Ay Tryz.prog 81=some 2:=by kernel_rfl
theorem Ia:FU Tryz.prog 81=true:=by kernel_rfl
theorem oK:∀ps,Tryz.prog.built 81 ps=Instr.fill (fun i=>(#[(0,1),(1,1)]:Array (Nat×Nat))[i]?) ((List.replicate 2 (.int .i64 0)):List Value).toArray ps:=by intro ps;kernel_rfl
theorem EA:((List.replicate 2 (.int .i64 0)):List Value).all (·.oneCell')=true:=by kernel_rfl
theorem Jg:BL Tryz.prog 81=some (List.replicate 2 (.int .i64 0)):=by kernel_rfl
theorem oQ:AY Tryz.prog 81 0=some 0:=by kernel_rfl
theorem oV:AY Tryz.prog 81 1=some 1:=by kernel_rfl
theorem zI:Ay Tryz.prog 82=some 1:=by kernel_rfl
theorem tW:D9 Tryz.prog 82=true:=by kernel_rfl
theorem FZ:Ay Tryz.prog 84=some 4:=by kernel_rfl
theorem TQ:FU Tryz.prog 84=true:=by kernel_rfl
theorem YT:Bk Tryz.prog 84=some 48:=by kernel_rfl
theorem tX:∀ps,Tryz.prog.built 84 ps=Instr.fill (fun i=>(#[(0,2),(2,1),(3,1)]:Array (Nat×Nat))[i]?) ([.int .i64 0,.int .i64 0,.int .i64 0,.slice none 0 0]:List Value).toArray ps:=by intro ps;kernel_rfl
theorem U3:([.int .i64 0,.int .i64 0,.int .i64 0,.slice none 0 0]:List Value).all (·.oneCell')=true:=by kernel_rfl
theorem U4:BL Tryz.prog 84=some [.int .i64 0,.int .i64 0,.int .i64 0,.slice none 0 0]:=by kernel_rfl
theorem oW:AY Tryz.prog 84 0=some 0:=by kernel_rfl
theorem oX:AY Tryz.prog 84 1=some 2:=by kernel_rfl
theorem oY:AY Tryz.prog 84 2=some 3:=by kernel_rfl
theorem Gj:Ay Tryz.prog 88=some 2:=by kernel_rfl
theorem TR:FU Tryz.prog 88=true:=by kernel_rfl
theorem tY:Bk Tryz.prog 88=some 16:=by kernel_rfl
theorem tZ:∀ps,Tryz.prog.built 88 ps=Instr.fill (fun i=>(#[(0,1),(1,1)]:Array (Nat×Nat))[i]?) ((List.replicate 2 (.int .i64 0)):List Value).toArray ps:=by intro ps;kernel_rfl
theorem aq:((List.replicate 2 (.int .i64 0)):List Value).all (·.oneCell')=true:=by kernel_rfl
theorem oZ:BL Tryz.prog 88=some (List.replicate 2 (.int .i64 0)):=by kernel_rfl
theorem oa:AY Tryz.prog 88 0=some 0:=by kernel_rfl
theorem og:AY Tryz.prog 88 1=some 1:=by kernel_rfl
theorem td:Ay Tryz.prog 89=some 1:=by kernel_rfl
theorem tg:D9 Tryz.prog 89=true:=by kernel_rfl
theorem LK:Ay Tryz.prog 91=some 5:=by kernel_rfl
theorem Wt:FU Tryz.prog 91=true:=by kernel_rfl
theorem oh:Bk Tryz.prog 91=some 64:=by kernel_rfl
theorem zJ:∀ps,Tryz.prog.built 91 ps=Instr.fill (fun i=>(#[(0,1),(1,1),(2,1),(3,1),(4,1)]:Array (Nat×Nat))[i]?) ([.string (ByteArray.mk #[]),.int .i64 0,.int .i64 0,.slice none 0 0,.int .i64 0]:List Value).toArray ps:=by intro ps;kernel_rfl
theorem au:([.string (ByteArray.mk #[]),.int .i64 0,.int .i64 0,.slice none 0 0,.int .i64 0]:List Value).all (·.oneCell')=true:=by kernel_rfl
theorem z91:BL Tryz.prog 91=some [.string (ByteArray.mk #[]),.int .i64 0,.int .i64 0,.slice none 0 0,.int .i64 0]:=by kernel_rfl
theorem om:AY Tryz.prog 91 0=some 0:=by kernel_rfl
theorem oo:AY Tryz.prog 91 1=some 1:=by kernel_rfl
theorem oq:AY Tryz.prog 91 2=some 2:=by kernel_rfl
theorem U5:AY Tryz.prog 91 3=some 3:=by kernel_rfl
theorem ot:AY Tryz.prog 91 4=some 4:=by kernel_rfl
theorem Di:Ay Tryz.prog 96=some 8:=by kernel_rfl
theorem Ib:FU Tryz.prog 96=true:=by kernel_rfl
theorem U6:Bk Tryz.prog 96=some 80:=by kernel_rfl
theorem YU:∀ps,Tryz.prog.built 96 ps=Instr.fill (fun i=>(#[(0,1),(1,1),(2,1),(3,1),(4,4)]:Array (Nat×Nat))[i]?) ([.int .i64 0,.int .i64 0,.int .i64 0,.int .i64 0,.int .i64 0,.int .i64 0,.int .i64 0,.slice none 0 0]:List Value).toArray ps:=by intro ps;kernel_rfl
theorem LL:([.int .i64 0,.int .i64 0,.int .i64 0,.int .i64 0,.int .i64 0,.int .i64 0,.int .i64 0,.slice none 0 0]:List Value).all (·.oneCell')=true:=by kernel_rfl
theorem QB:BL Tryz.prog 96=some [.int .i64 0,.int .i64 0,.int .i64 0,.int .i64 0,.int .i64 0,.int .i64 0,.int .i64 0,.slice none 0 0]:=by kernel_rfl
theorem ow:AY Tryz.prog 96 0=some 0:=by kernel_rfl
theorem ox:AY Tryz.prog 96 1=some 1:=by kernel_rfl
theorem oy:AY Tryz.prog 96 2=some 2:=by kernel_rfl
theorem oz:AY Tryz.prog 96 3=some 3:=by kernel_rfl
theorem o9:AY Tryz.prog 96 4=some 4:=by kernel_rfl
theorem th:∀ps,Tryz.prog.built 112 ps=Instr.fill (fun i=>(#[(0,1),(1,1)]:Array (Nat×Nat))[i]?) ((List.replicate 2 (.int .i64 0)):List Value).toArray ps:=by intro ps;kernel_rfl
theorem tj:((List.replicate 2 (.int .i64 0)):List Value).all (·.oneCell')=true:=by kernel_rfl
theorem iG:AY Tryz.prog 112 0=some 0:=by kernel_rfl
theorem iH:AY Tryz.prog 112 1=some 1:=by kernel_rfl
theorem HS:Ay Tryz.prog 114=some 3:=by kernel_rfl
theorem OT:FU Tryz.prog 114=true:=by kernel_rfl
theorem tq:∀ps,Tryz.prog.built 114 ps=Instr.fill (fun i=>(#[(0,2),(2,1)]:Array (Nat×Nat))[i]?) ([.int .i64 0,.int .i64 0,.slice none 0 0]:List Value).toArray ps:=by intro ps;kernel_rfl
theorem OU:([.int .i64 0,.int .i64 0,.slice none 0 0]:List Value).all (·.oneCell')=true:=by kernel_rfl
theorem YV:BL Tryz.prog 114=some [.int .i64 0,.int .i64 0,.slice none 0 0]:=by kernel_rfl
theorem iI:AY Tryz.prog 114 0=some 0:=by kernel_rfl
theorem iJ:AY Tryz.prog 114 1=some 2:=by kernel_rfl
theorem Bl:Ay Tryz.prog 117=some 2:=by kernel_rfl
theorem Dt:FU Tryz.prog 117=true:=by kernel_rfl
theorem LM:Bk Tryz.prog 117=some 16:=by kernel_rfl
theorem mI:∀ps,Tryz.prog.built 117 ps=Instr.fill (fun i=>(#[(0,1),(1,1)]:Array (Nat×Nat))[i]?) ((List.replicate 2 (.int .i64 0)):List Value).toArray ps:=by intro ps;kernel_rfl
theorem Iz:((List.replicate 2 (.int .i64 0)):List Value).all (·.oneCell')=true:=by kernel_rfl
theorem z117:BL Tryz.prog 117=some (List.replicate 2 (.int .i64 0)):=by kernel_rfl
theorem Rp:AY Tryz.prog 117 0=some 0:=by kernel_rfl
theorem Rr:AY Tryz.prog 117 1=some 1:=by kernel_rfl
theorem tr:Ay Tryz.prog 121=some 1:=by kernel_rfl
theorem I0:D9 Tryz.prog 121=true:=by kernel_rfl
theorem tu:([.pointer none]:List Value).all (·.oneCell')=true:=by kernel_rfl
theorem zK:BL Tryz.prog 121=some [.pointer none]:=by kernel_rfl
theorem av:Ay Tryz.prog 124=some 2:=by kernel_rfl
theorem o_:FU Tryz.prog 124=true:=by kernel_rfl
theorem mJ:∀ps,Tryz.prog.built 124 ps=Instr.fill (fun i=>(#[(0,1),(1,1)]:Array (Nat×Nat))[i]?) ((List.replicate 2 (.int .i64 0)):List Value).toArray ps:=by intro ps;kernel_rfl
theorem mK:((List.replicate 2 (.int .i64 0)):List Value).all (·.oneCell')=true:=by kernel_rfl
theorem iK:AY Tryz.prog 124 0=some 0:=by kernel_rfl
theorem iL:AY Tryz.prog 124 1=some 1:=by kernel_rfl
theorem EH:Ay Tryz.prog 126=some 15:=by kernel_rfl
theorem HD:FU Tryz.prog 126=true:=by kernel_rfl
theorem tv:Bk Tryz.prog 126=some 152:=by kernel_rfl
theorem tw:∀ps,Tryz.prog.built 126 ps=Instr.fill (fun i=>(#[(0,1),(1,1),(2,1),(3,2),(5,1),(6,2),(8,1),(9,1),(10,1),(11,1),(12,1),(13,2)]:Array (Nat×Nat))[i]?) ([.int .i64 0,.string (ByteArray.mk #[]),.string (ByteArray.mk #[]),.int .i64 0,.int .i64 0,.int .i64 0,.int .i64 0,.int .i64 0,.int .i64 0,.int .i64 0,.bool false,.int .i64 0,.slice none 0 0,.int .i64 0,.int .i64 0]:List Value).toArray ps:=by intro ps;kernel_rfl
theorem OV:([.int .i64 0,.string (ByteArray.mk #[]),.string (ByteArray.mk #[]),.int .i64 0,.int .i64 0,.int .i64 0,.int .i64 0,.int .i64 0,.int .i64 0,.int .i64 0,.bool false,.int .i64 0,.slice none 0 0,.int .i64 0,.int .i64 0]:List Value).all (·.oneCell')=true:=by kernel_rfl
theorem U7:BL Tryz.prog 126=some [.int .i64 0,.string (ByteArray.mk #[]),.string (ByteArray.mk #[]),.int .i64 0,.int .i64 0,.int .i64 0,.int .i64 0,.int .i64 0,.int .i64 0,.int .i64 0,.bool false,.int .i64 0,.slice none 0 0,.int .i64 0,.int .i64 0]:=by kernel_rfl
theorem iM:AY Tryz.prog 126 0=some 0:=by kernel_rfl
theorem iN:AY Tryz.prog 126 1=some 1:=by kernel_rfl
theorem iO:AY Tryz.prog 126 2=some 2:=by kernel_rfl
theorem iP:AY Tryz.prog 126 3=some 3:=by kernel_rfl
theorem iQ:AY Tryz.prog 126 4=some 5:=by kernel_rfl
theorem iR:AY Tryz.prog 126 5=some 6:=by kernel_rfl
theorem iS:AY Tryz.prog 126 6=some 8:=by kernel_rfl
theorem iT:AY Tryz.prog 126 7=some 9:=by kernel_rfl
theorem iU:AY Tryz.prog 126 8=some 10:=by kernel_rfl
theorem iV:AY Tryz.prog 126 9=some 11:=by kernel_rfl
theorem az:AY Tryz.prog 126 10=some 12:=by kernel_rfl
theorem OW:AY Tryz.prog 126 11=some 13:=by kernel_rfl
theorem I2:Ay Tryz.prog 131=some 3:=by kernel_rfl
theorem mL:Bk Tryz.prog 131=some 24:=by kernel_rfl
theorem t_:∀ps,Tryz.prog.built 131 ps=Instr.fill (fun i=>(#[(0,2),(2,1)]:Array (Nat×Nat))[i]?) ((List.replicate 3 (.int .i64 0)):List Value).toArray ps:=by intro ps;kernel_rfl
theorem mM:((List.replicate 3 (.int .i64 0)):List Value).all (·.oneCell')=true:=by kernel_rfl
theorem z131:BL Tryz.prog 131=some (List.replicate 3 (.int .i64 0)):=by kernel_rfl
theorem iW:AY Tryz.prog 131 0=some 0:=by kernel_rfl
theorem iX:AY Tryz.prog 131 1=some 2:=by kernel_rfl
theorem Mu:Ay Tryz.prog 146=some 1:=by kernel_rfl
theorem pE:D9 Tryz.prog 146=true:=by kernel_rfl
theorem uA:Bk Tryz.prog 146=some 24:=by kernel_rfl
theorem z146:BL Tryz.prog 146=some [.slice none 0 0]:=by kernel_rfl
theorem FK:Ay Tryz.prog 153=some 1:=by kernel_rfl
theorem Fa:D9 Tryz.prog 153=true:=by kernel_rfl
theorem mN:Bk Tryz.prog 153=some 4:=by kernel_rfl
theorem uB:BL Tryz.prog 153=some [.int .u32 0]:=by kernel_rfl
theorem I3:D9 Tryz.prog 158=true:=by kernel_rfl
theorem uC:∀ps,Tryz.prog.built 160 ps=Instr.fill (fun i=>(#[(0,1),(1,1),(2,1)]:Array (Nat×Nat))[i]?) ([.int .i64 0,.slice none 0 0,.slice none 0 0]:List Value).toArray ps:=by intro ps;kernel_rfl
theorem uD:([.int .i64 0,.slice none 0 0,.slice none 0 0]:List Value).all (·.oneCell')=true:=by kernel_rfl
theorem iY:AY Tryz.prog 160 0=some 0:=by kernel_rfl
theorem Hy:AY Tryz.prog 160 1=some 1:=by kernel_rfl
theorem iZ:AY Tryz.prog 160 2=some 2:=by kernel_rfl
theorem uE:Ay Tryz.prog 166=some 1:=by kernel_rfl
theorem a_:D9 Tryz.prog 166=true:=by kernel_rfl
theorem FL:Ay Tryz.prog 172=some 12:=by kernel_rfl
theorem Hz:FU Tryz.prog 172=true:=by kernel_rfl
theorem TS:∀ps,Tryz.prog.built 172 ps=Instr.fill (fun i=>(#[(0,1),(1,1),(2,2),(4,2),(6,2),(8,2),(10,1),(11,1)]:Array (Nat×Nat))[i]?) ([.int .i64 0,.string (ByteArray.mk #[]),.int .i64 0,.int .i64 0,.int .i64 0,.int .i64 0,.int .i64 0,.int .i64 0,.int .i64 0,.int .i64 0,.int .i64 0,.int .i64 0]:List Value).toArray ps:=by intro ps;kernel_rfl
theorem HT:([.int .i64 0,.string (ByteArray.mk #[]),.int .i64 0,.int .i64 0,.int .i64 0,.int .i64 0,.int .i64 0,.int .i64 0,.int .i64 0,.int .i64 0,.int .i64 0,.int .i64 0]:List Value).all (·.oneCell')=true:=by kernel_rfl
theorem QC:BL Tryz.prog 172=some [.int .i64 0,.string (ByteArray.mk #[]),.int .i64 0,.int .i64 0,.int .i64 0,.int .i64 0,.int .i64 0,.int .i64 0,.int .i64 0,.int .i64 0,.int .i64 0,.int .i64 0]:=by kernel_rfl
theorem ia:AY Tryz.prog 172 2=some 2:=by kernel_rfl
theorem ig:AY Tryz.prog 172 3=some 4:=by kernel_rfl
theorem ij:AY Tryz.prog 172 4=some 6:=by kernel_rfl
theorem iq:AY Tryz.prog 172 5=some 8:=by kernel_rfl
theorem ir:AY Tryz.prog 172 6=some 10:=by kernel_rfl
theorem iw:AY Tryz.prog 172 7=some 11:=by kernel_rfl
theorem Bu:Ay Tryz.prog 188=some 2:=by kernel_rfl
theorem Cf:FU Tryz.prog 188=true:=by kernel_rfl
theorem Wu:Bk Tryz.prog 188=some 16:=by kernel_rfl
theorem Qq:∀ps,Tryz.prog.built 188 ps=Instr.fill (fun i=>(#[(0,1),(1,1)]:Array (Nat×Nat))[i]?) ((List.replicate 2 (.int .i64 0)):List Value).toArray ps:=by intro ps;kernel_rfl
theorem E_:((List.replicate 2 (.int .i64 0)):List Value).all (·.oneCell')=true:=by kernel_rfl
theorem Io:BL Tryz.prog 188=some (List.replicate 2 (.int .i64 0)):=by kernel_rfl
theorem iy:AY Tryz.prog 188 1=some 1:=by kernel_rfl
theorem FM:Ay Tryz.prog 190=some 4:=by kernel_rfl
theorem I4:FU Tryz.prog 190=true:=by kernel_rfl
theorem uF:Bk Tryz.prog 190=some 48:=by kernel_rfl
theorem Wv:∀ps,Tryz.prog.built 190 ps=Instr.fill (fun i=>(#[(0,1),(1,1),(2,2)]:Array (Nat×Nat))[i]?) ([.int .i64 0,.slice none 0 0,.int .i64 0,.int .i64 0]:List Value).toArray ps:=by intro ps;kernel_rfl
theorem OX:([.int .i64 0,.slice none 0 0,.int .i64 0,.int .i64 0]:List Value).all (·.oneCell')=true:=by kernel_rfl
theorem iz:BL Tryz.prog 190=some [.int .i64 0,.slice none 0 0,.int .i64 0,.int .i64 0]:=by kernel_rfl
theorem Ww:Ay Tryz.prog 197=some 1:=by kernel_rfl
theorem pF:D9 Tryz.prog 197=true:=by kernel_rfl
theorem uG:Bk Tryz.prog 197=some 24:=by kernel_rfl
theorem uH:([.slice none 0 0]:List Value).all (·.oneCell')=true:=by kernel_rfl
theorem uI:BL Tryz.prog 197=some [.slice none 0 0]:=by kernel_rfl
theorem uJ:Ay Tryz.prog 209=some 1:=by kernel_rfl
theorem Rs:D9 Tryz.prog 209=true:=by kernel_rfl
theorem CN:Ay Tryz.prog 211=some 4:=by kernel_rfl
theorem C0:FU Tryz.prog 211=true:=by kernel_rfl
theorem mO:Bk Tryz.prog 211=some 64:=by kernel_rfl
theorem bA:∀ps,Tryz.prog.built 211 ps=Instr.fill (fun i=>(#[(0,1),(1,1),(2,1),(3,1)]:Array (Nat×Nat))[i]?) ([.int .i64 0,.slice none 0 0,.bool false,.slice none 0 0]:List Value).toArray ps:=by intro ps;kernel_rfl
theorem KA:([.int .i64 0,.slice none 0 0,.bool false,.slice none 0 0]:List Value).all (·.oneCell')=true:=by kernel_rfl
theorem MH:BL Tryz.prog 211=some [.int .i64 0,.slice none 0 0,.bool false,.slice none 0 0]:=by kernel_rfl
theorem i6:AY Tryz.prog 211 0=some 0:=by kernel_rfl
theorem Rt:AY Tryz.prog 211 1=some 1:=by kernel_rfl
theorem i7:AY Tryz.prog 211 2=some 2:=by kernel_rfl
theorem LN:AY Tryz.prog 211 3=some 3:=by kernel_rfl
theorem mP:Ay Tryz.prog 216=some 2:=by kernel_rfl
theorem uK:∀ps,Tryz.prog.built 216 ps=Instr.fill (fun i=>(#[(0,1),(1,1)]:Array (Nat×Nat))[i]?) ([.string (ByteArray.mk #[]),.int .i64 0]:List Value).toArray ps:=by intro ps;kernel_rfl
theorem mQ:([.string (ByteArray.mk #[]),.int .i64 0]:List Value).all (·.oneCell')=true:=by kernel_rfl
theorem zL:BL Tryz.prog 216=some [.string (ByteArray.mk #[]),.int .i64 0]:=by kernel_rfl
theorem i9:AY Tryz.prog 216 1=some 1:=by kernel_rfl
end Go.Proofs.YtkobgkelhcigdaaGreatDoor
namespace Go.Proofs.YtkobgkelhcigdaaGreatDoor
open Go Go.RowKit Cp Go.Proofs.Tryz
abbrev ints (l:List Int):Pr:=slice 1 (l.map fun n=>[int n])
def idx {β:Type} (p:β→Bool) (l:List β):Int:=match l.findIdx? p with|some i=>i|none=> -1
theorem D8 {β:Type} {p:β→Bool} {l:List β} {k:Nat} {x:β} (hx:l[k]? =some x) (hp:p x=true) (h:∀j y,j<k→l[j]? =some y→p y=false):(k:Int)=idx p l:=by
 have:l.findIdx? p=some k:=by
  rw [List.findIdx?_eq_some_iff_getElem]
  have hk:k<l.length:=by rcases Nat.lt_or_ge k l.length with h|h;exact h;rw [List.getElem?_eq_none h] at hx;cases hx
  rw [List.getElem?_eq_getElem hk] at hx
  simp only [Option.some.injEq] at hx
  refine ⟨hk,by rw [hx];exact hp,fun j hj=> ?_⟩
  simpa using h j _ hj (List.getElem?_eq_getElem (by omega))
 unfold idx;rw [this]
theorem GR {β:Type} {p:β→Bool} {l:List β} (h:∀j y,j<l.length→l[j]? =some y→p y=false):(-1:Int)=idx p l:=by
 have:l.findIdx? p=none:=by
  rw [List.findIdx?_eq_none_iff]
  intro x hx
  obtain ⟨j,hj,rfl⟩:=List.mem_iff_getElem.1 hx
  exact h j _ hj (List.getElem?_eq_getElem hj)
 unfold idx;rw [this]
theorem Wx {β:Type} (p:β→Bool) (l:List β):decide (idx p l≥0)=l.any p:=by
 unfold idx
 cases h:l.findIdx? p with
 |none=>rw [List.findIdx?_eq_none_iff] at h;simp;intro x hx;simpa using h x hx
 |some i=>
  rw [List.findIdx?_eq_some_iff_getElem] at h
  obtain ⟨h1,h2,_⟩:=h
  simp
  exact ⟨_,List.getElem_mem h1,h2⟩
theorem Du {β:Type} {p:β→Bool} {l:List β} {k:Nat} {x:β} (hx:l[k]? =some x) (hp:p x=false) (h:∀j y,j<k→l[j]? =some y→p y=false):∀j y,j<k+1→l[j]? =some y→p y=false:=by
 intro j y hj hy
 by_cases hjk:j=k
 · subst hjk;rw [hx] at hy;cases hy;exact hp
 · exact h j y (by omega) hy
end Go.Proofs.YtkobgkelhcigdaaGreatDoor
namespace Go.Proofs.YtkobgkelhcigdaaGreatDoor
open Go Go.RowKit Cp Go.ChangeShapes Go.WideShapes Go.ChangeAt Go.Proofs.Tryz
theorem zM:ownKnob Tryz.prog.godebug=none:=by kernel_rfl
theorem bB:laidOutB Tryz.prog=true:=by kernel_rfl
theorem i64_in {n:Int} (h:(Lit.int .i64 n).wf=true):Kz n:=by
 simp only [Lit.wf,Bool.and_eq_true,decide_eq_true_eq] at h
 have h1:IntKind.i64.min= -9223372036854775808:=rfl
 have h2:IntKind.i64.max=9223372036854775807:=rfl
 unfold Kz;omega
theorem U8 {P:Program} {t e:TypeId} (ht:P.underlying t=some (.slice e)) (he:P.underlying e=some (.int .i64)) (hc:P.cellsOf e=1):LG P t (fun l:List Int=>l.length≤maxLen∧∀n∈l,Kz n) (fun l=>[ints l]):=
 (TG ht hc (YP he)).map id (fun _ h=>⟨h.2,fun n hn=>i64_in (h.1 n hn)⟩) (fun _=>rfl)
end Go.Proofs.YtkobgkelhcigdaaGreatDoor
namespace Cp
open Go Go.RowKit Go.Great
section
variable {P:Program} {L:Lg P} {n:Fm} {fz:Nat} {E:Env} {M0:Av} {w0:World} {S:Nat→Prop} {rs:List Ao} {o:Oper}
def lens (m:Nat):Pr where
 h _ _ v:=∃a c,v= .slice a m c
 st _M _w _M' _w' _v _ h:=h
instance uL (m:Nat):One (lens m):=⟨by rintro M w v ⟨a,c,rfl⟩;exact ⟨rfl,rfl⟩⟩
def HE (e:TypeId) (sz:Nat) (rows:List (List Pr)) (v:Value):Ao where
 blk:=match v with| .slice (some a) _ _=>some a.block|_=>none
 new:=true
 h M w:=∃(b cap:Nat) (spare:List Value),v= .slice (some ⟨b,0,none⟩) rows.length cap∧rows.length≤cap∧cap≤maxLen∧spare.length=(cap-rows.length)*sz∧(AB true b e (rows.flatten++spare.map is)).h M w
 st M w M' w' he hk h:=by
  obtain ⟨b,cap,spare,rfl,h1,h2,h3,h4⟩:=h
  exact ⟨b,cap,spare,rfl,h1,h2,h3,(AB true b e _).st _ _ _ _ he hk h4⟩
theorem H6 {sz:Nat}:∀{rows:List (List Pr)} {i j:Nat} {row:List Pr},(∀r∈rows,r.length=sz)→rows[i]? =some row→j<sz→rows.flatten[i*sz+j]? =row[j]?
 |[],_,_,_,_,h,_=>by simp at h
 |a::l,0,j,row,hl,h,hj=>by
  simp at h;subst h
  have:=hl a (by simp)
  rw [List.flatten_cons,Nat.zero_mul,Nat.zero_add,List.getElem?_append_left (by omega)]
 |a::l,i+1,j,row,hl,h,hj=>by
  have h1:=hl a (by simp)
  rw [List.flatten_cons,Nat.succ_mul,List.getElem?_append_right (by omega),h1,show i*sz+sz+j-sz=i*sz+j by omega]
  exact H6 (fun r hr=>hl r (List.mem_cons_of_mem _ hr)) (by simpa using h) hj
theorem CZ {sz:Nat}:∀{rows:List (List Pr)},(∀r∈rows,r.length=sz)→rows.flatten.length=rows.length*sz
 |[],_=>by simp
 |a::l,h=>by
  rw [List.flatten_cons,List.length_append,CZ (fun r hr=>h r (List.mem_cons_of_mem _ hr)),h a (by simp),List.length_cons,Nat.succ_mul];omega
theorem Qr {M:Av} {w:World}:∀{ps:List Pr} {vs:List Value},vs.length=ps.length→(∀(k:Nat) p,ps[k]? =some p→∃u,vs[k]? =some u∧p.h M w u)→HL M w ps vs
 |[],[],_,_=>trivial
 |[],_::_,h,_=>by simp at h
 |_::_,[],h,_=>by simp at h
 |p::ps,v::vs,h,hk=>by
  refine ⟨?_,Qr (by simpa using h) fun k q hq=>by simpa using hk (k+1) q (by simpa using hq)⟩
  obtain ⟨u,hu,hp⟩:=hk 0 p rfl
  simp at hu;subst hu;exact hp
theorem Flat.hl {M:Av} {w:World} {sz:Nat} {rows:List (List Pr)} {news:List Value} (hsz:0<sz) (h:Flat M w sz rows news):HL M w rows.flatten news:=by
 have hl:∀r∈rows,r.length=sz:=fun r hr=>by obtain ⟨i,hi⟩:=List.mem_iff_getElem?.1 hr;exact (h.2.2 i r hi).1
 refine Qr (by rw [h.1,CZ hl]) fun k p hk=> ?_
 have Uk:k<rows.length*sz:=by rw [←CZ hl];rcases Nat.lt_or_ge k rows.flatten.length with h|h;exact h;rw [List.getElem?_eq_none h] at hk;cases hk
 have hi:k/sz<rows.length:=Nat.div_lt_of_lt_mul (by rw [Nat.mul_comm];exact Uk)
 have hj:k % sz<sz:=Nat.mod_lt _ hsz
 have he:k/sz*sz+k % sz=k:=by rw [Nat.mul_comm];exact Nat.div_add_mod k sz
 have hr:=List.getElem?_eq_getElem hi
 rw [←he,H6 hl hr hj] at hk
 obtain ⟨u,hu,hp⟩:=(h.2.2 _ _ hr).2 _ p hk
 exact ⟨u,by rw [←he];exact hu,hp⟩
theorem HL.flat {M:Av} {w:World} {sz:Nat} {rows:List (List Pr)} {qs:List Pr} {cs:List Value} (hl:∀r∈rows,r.length=sz) (h:HL M w (rows.flatten++qs) cs) (h1:∀c∈cs,c.oneCell'=true):Flat M w sz rows (cs.take (rows.length*sz)):=by
 have hfl:=CZ hl
 have hlen:=h.length
 refine ⟨by rw [List.length_take,hlen,List.length_append,hfl];omega,fun u hu=>h1 u (List.mem_of_mem_take hu),fun i row hi=> ?_⟩
 have hrl:=hl row (List.mem_of_getElem? hi)
 refine ⟨hrl,fun j p hp=> ?_⟩
 have hjl:j<sz:=by rw [←hrl];rcases Nat.lt_or_ge j row.length with h|h;exact h;rw [List.getElem?_eq_none h] at hp;cases hp
 have FQ:i<rows.length:=by rcases Nat.lt_or_ge i rows.length with h|h;exact h;rw [List.getElem?_eq_none h] at hi;cases hi
 have hlt:i*sz+j<rows.length*sz:=by have:(i+1)*sz≤rows.length*sz:=Nat.mul_le_mul_right sz FQ;rw [Nat.add_mul] at this;omega
 obtain ⟨u,hu,hh⟩:=h.at_ (i*sz+j) p (by rw [List.getElem?_append_left (by rw [hfl];exact hlt),H6 hl hi hjl];exact hp)
 exact ⟨u,by rw [List.getElem?_take,if_pos hlt];exact hu,hh⟩
theorem Fp {zs:List Value} {z:Array Value} {k:Nat} (hz:z.toList=zs) (h1:zs.all (·.oneCell')=true):∀c∈(Builtin.zeroCells z k).toList,c.oneCell'=true:=by
 intro c hc
 simp only [Builtin.zeroCells,Array.toList_map,Array.toList_range,List.mem_map,List.mem_range] at hc
 obtain ⟨i,hi,rfl⟩:=hc
 have hpos:0<z.size:=by rcases Nat.eq_zero_or_pos z.size with h|h;rw [h] at hi;simp at hi;exact h
 have hm:i % z.size<z.size:=Nat.mod_lt _ hpos
 rw [getElem!_pos z _ hm]
 exact List.all_eq_true.1 h1 _ (by rw [←hz];simp)
theorem i_ {M:Av} {w:World} {t ty e:TypeId} {sz bytes:Nat} {zs:List Value} {rows:List (List Pr)} {u:Value} {j:Nat} (ht:P.underlying t=some (.slice e)) (hz:Ay P e=some sz) (hby:Bk P e=some bytes) (EM:BL P e=some zs) (hzl:zs.length=sz) (hone:zs.all (·.oneCell')=true) (hsz:0<sz)
  (h:At M0 w0 S rs M w) (hj:rs[j]? =some Bp) (hu:(slice sz rows).h M w u) (hpos:0<rows.length) (Fv:rows.length≤maxLen) (hfit:rows.length*bytes≤140737488355328):
  ∃v' w' M',(Builtin.append_ #[t,t] ty #[.slice none 0 0,u]).run P w= .ok v' w'∧(lens rows.length).h M' w' v'∧Ext M w M' w'∧At M0 w0 S (rs.set j (HE e sz rows v')) M' w':=by
 unfold Ay at hz
 unfold Bk at hby
 unfold BL at EM
 cases hi:P.info? e with
 |none=>rw [hi] at hz;cases hz
 |some i=>
  rw [hi] at hz hby EM
  simp only [Option.map_some,Option.some.injEq,Option.map_eq_some_iff] at hz hby EM
  obtain ⟨z,Wl,EM⟩:=EM
  have Zs:z.cells.size=sz:=by rw [←hzl,←EM];simp
  obtain ⟨A',c',rfl,nX,Ut,gN,GN⟩:=hu
  have Rb:(slice sz rows).h M w (.slice A' rows.length c'):=⟨A',c',rfl,nX,Ut,gN,GN⟩
  obtain ⟨Qe,rfl⟩:∃Qe,A'=some Qe:=by
   obtain ⟨_,b,hb,_⟩:=GN 0 _ (List.getElem?_eq_getElem hpos)
   exact ⟨b,hb⟩
  obtain ⟨news,hfl,hcell⟩:=FW hsz Rb
  have hrun:=run_append_nil (P:=P) w t ty e i z ht hi Wl Qe rows.length c' news (by rw [hz];exact hfl.1) (fun k u hk=>(hcell k u hk).1) hpos (by unfold maxLen at Fv;omega) (by rw [hby];omega)
  generalize hcap:grownCap w rows.length 0 e=cap at hrun
  have hge:rows.length≤cap:=by rw [←hcap];exact grownCap_ge _ _ _ _
  have hle:cap≤maxLen:=by rw [←hcap];exact grownCap_le_maxLen _ _ _ _ Fv
  generalize P8:Builtin.zeroCells z.cells (cap-rows.length)=zc at hrun
  have hzs:zc.size=(cap-rows.length)*sz:=by rw [←P8,size_zeroCells,Zs]
  have hzo:∀c∈zc.toList,c.oneCell'=true:=by rw [←P8];exact Fp EM hone
  have hb:Below w.heap.size w (w.drew.alloc (.cells (news.toArray++zc) e)):=((Below.refl _ _).drew).alloc (Nat.le_refl _) _
  have h2:=Ext.below (M:=M) hb
  have Ej:Ext M w (fun b o=>M b o∨b=w.heap.size) (w.drew.alloc (.cells (news.toArray++zc) e)):=by
   refine ⟨h2.size,fun a v hc hm=>⟨fun hx=> ?_,(h2.keep a v hc hm).2⟩,fun b o ho hp hm=>⟨fun hx=> ?_,(h2.obj b o ho hp hm).2⟩⟩
   ·
    rcases hx with hx|hx
    · exact hm hx
    · have:=EG hc;omega
   ·
    rcases hx with hx|hx
    · exact hm hx
    · subst hx;simp at ho
  have hs1:(w.drew.alloc (.cells (news.toArray++zc) e)).heap.size=w.heap.size+1:=by simp
  refine ⟨_,_,fun b o=>M b o∨b=w.heap.size,hrun,⟨_,_,rfl⟩,Ej,?_⟩
  refine h.replace hj Ej hb.os hb.tape hb.output (fun k hk _=>hb.block k hk) rfl (fun b o hm _=> .inl hm) (fun b o hx=> ?_) ?_ rfl (fun b hbk=> ?_)
  ·
   rcases hx with hx|hx
   · have:=h.bd _ _ hx;omega
   · omega
  ·
   refine ⟨w.heap.size,cap,zc.toList,rfl,hge,hle,by simpa using hzs,fun o=> .inr rfl,news++zc.toList,?_,?_,?_⟩
   ·
    have hh:(w.drew.alloc (.cells (news.toArray++zc) e)).heap[w.heap.size]? =some (.cells (news.toArray++zc) e (0,0)):=heap_alloc_new w.drew _
    rw [hh];simp
   · exact ((hfl.st Ej).hl hsz).app (J7 _ _ _)
   ·
    intro c hc
    rcases List.mem_append.1 hc with hc|hc
    · exact hfl.2.1 c hc
    · exact hzo c hc
  ·
   have Ee:some w.heap.size=some b:=hbk
   injection Ee with e1
   subst e1
   exact ⟨by rw [hs1];omega,.inr (Nat.le_refl _)⟩
theorem St.OY {e:TypeId} {sz:Nat} {rows:List (List Pr)} {v:Value} (j:Nat) (hj:rs[j]? =some (HE e sz rows v)) {a:Act} {w:World} (h:St n E (Hp M0 w0 S rs) a w):
  ∃(b cap:Nat) (spare:List Value),v= .slice (some ⟨b,0,none⟩) rows.length cap∧rows.length≤cap∧cap≤maxLen∧spare.length=(cap-rows.length)*sz∧St n E (Hp M0 w0 S (rs.set j (AB true b e (rows.flatten++spare.map is)))) a w:=by
 obtain ⟨M,h1,h2,h3,h4⟩:=h
 have h4:At M0 w0 S rs M w:=h4
 obtain ⟨b,cap,spare,rfl,h5,h6,h7,h8⟩:=(h4.hold _ (List.mem_of_getElem? hj)).1
 exact ⟨b,cap,spare,rfl,h5,h6,h7,M,h1,h2,h3,h4.Cl hj rfl rfl h8⟩
theorem Tr.OY {Q:Exit→Act→World→Prop} {c:Code} {e:TypeId} {sz:Nat} {rows:List (List Pr)} {v:Value} (j:Nat) (hj:rs[j]? =some (HE e sz rows v))
  (k:∀(b cap:Nat) (spare:List Value),v= .slice (some ⟨b,0,none⟩) rows.length cap→rows.length≤cap→cap≤maxLen→spare.length=(cap-rows.length)*sz→Tr L n E (Hp M0 w0 S (rs.set j (AB true b e (rows.flatten++spare.map is)))) c Q):Tr L n E (Hp M0 w0 S rs) c Q:=
 fun a w hs=>let ⟨b,cap,spare,h1,h2,h3,h4,h5⟩:=hs.OY j hj;k b cap spare h1 h2 h3 h4 a w h5
theorem Fin.OY {Q:Exit→Act→World→Prop} {ex:Exit} {e:TypeId} {sz:Nat} {rows:List (List Pr)} {v:Value} (j:Nat) (hj:rs[j]? =some (HE e sz rows v))
  (k:∀(b cap:Nat) (spare:List Value),v= .slice (some ⟨b,0,none⟩) rows.length cap→rows.length≤cap→cap≤maxLen→spare.length=(cap-rows.length)*sz→Fin n E (Hp M0 w0 S (rs.set j (AB true b e (rows.flatten++spare.map is)))) Q ex):Fin n E (Hp M0 w0 S rs) Q ex:=
 fun a w hs=>let ⟨b,cap,spare,h1,h2,h3,h4,h5⟩:=hs.OY j hj;k b cap spare h1 h2 h3 h4 a w h5
theorem At.frz {M:Av} {w:World} {b cap sz:Nat} {e:TypeId} {rows:List (List Pr)} {qs:List Pr} {j:Nat} (h:At M0 w0 S rs M w) (hj:rs[j]? =some (AB true b e (rows.flatten++qs))) (hl:∀r∈rows,r.length=sz) (hc:rows.length≤cap) (hm:cap≤maxLen) (hq:qs.length=(cap-rows.length)*sz):
  ∃M',Ext M w M' w∧At M0 w0 S (rs.set j (Aq e sz (.slice (some ⟨b,0,none⟩) rows.length cap))) M' w∧(slice sz rows).h M' w (.slice (some ⟨b,0,none⟩) rows.length cap):=by
 obtain ⟨⟨hM,cs,hh,hcs,hone⟩,lq⟩:=h.hold _ (List.mem_of_getElem? hj)
 have Ru:=(lq b rfl).1
 have hfl:=HL.flat hl hcs hone
 have hlen:=hcs.length
 rw [List.length_append,CZ hl,hq,←Nat.add_mul,show rows.length+(cap-rows.length)=cap by omega] at hlen
 have he:Ext M w (fun b' o=>M b' o∧¬(b'=b∧o<rows.length*sz)) w:=Ext.less fun _ _ h=>h.1
 refine ⟨_,he,?_,Ek (hfl.st he) hc hm fun k u hk=> ?_⟩
 ·
  refine h.replace hj he rfl rfl rfl (fun _ _ _=>rfl) rfl (fun b' o hm' hne=>⟨hm',fun hx=>hne (by rw [hx.1];rfl)⟩) (fun b' o hx=>h.bd _ _ hx.1) ?_ rfl (fun b' hbk=> ?_)
  ·
   intro a' n' c' hv hlt
   injection hv with e1 e2 e3
   injection e1 with e1
   subst e1;subst e2;subst e3
   refine ⟨⟨cs.take (rows.length*sz),hfl.1,.inr ⟨b,cap,cs.toArray,rfl,Nat.zero_le _,hh,hc,hm,by simpa using hlen,by simp⟩⟩,fun o ho=>⟨hM o,fun hx=>by omega⟩⟩
  ·
   have Ee:C_ (.slice (some ⟨b,0,none⟩) rows.length cap)=some b':=hbk
   simp only [C_] at Ee
   split at Ee
   · simp at Ee;subst Ee;exact ⟨Ru,.inl rfl⟩
   · cases Ee
 ·
  have Uk:k<rows.length*sz:=by rw [←hfl.1];rcases Nat.lt_or_ge k (cs.take (rows.length*sz)).length with h|h;exact h;rw [List.getElem?_eq_none h] at hk;cases hk
  rw [List.getElem?_take,if_pos Uk] at hk
  exact ⟨by simp [World.cell?,hh,hk],fun hx=>hx.2 ⟨rfl,Uk⟩⟩
theorem St.jA {b b0 cap sz:Nat} {e T:TypeId} {new:Bool} {rows:List (List Pr)} {qs ps ps':List Pr} (j i k:Nat) {p:Pr} (hj:rs[j]? =some (AB true b e (rows.flatten++qs))) (hi:rs[i]? =some (AB new b0 T ps)) (hij:j≠i) (hk:ps[k]? =some p) (hp:Pr.le p (is (.slice (some ⟨b,0,none⟩) rows.length cap)))
  (hl:∀r∈rows,r.length=sz) (hc:rows.length≤cap) (hm:cap≤maxLen) (hq:qs.length=(cap-rows.length)*sz) (hps:ps.set k (Ag (.slice (some ⟨b,0,none⟩) rows.length cap) (slice sz rows))=ps')
  {a:Act} {w:World} (h:St n E (Hp M0 w0 S rs) a w):St n E (Hp M0 w0 S ((rs.set j (Aq e sz (.slice (some ⟨b,0,none⟩) rows.length cap))).set i (AB new b0 T ps'))) a w:=by
 obtain ⟨M,h1,h2,h3,h4⟩:=h
 obtain ⟨M',h5,h6,h7⟩:=At.frz h4 hj hl hc hm hq
 have hi':(rs.set j (Aq e sz (.slice (some ⟨b,0,none⟩) rows.length cap)))[i]? =some (AB new b0 T ps):=by rw [List.getElem?_set,if_neg hij];exact hi
 obtain ⟨h8,cs,h9,h10,h11⟩:=(h6.hold _ (List.mem_of_getElem? hi')).1
 refine ⟨M',h1,h2,fun s q hs=>q.st _ _ _ _ _ h5 (h3 s q hs),h6.Cl hi' rfl rfl ⟨h8,cs,h9,?_,h11⟩⟩
 subst hps
 refine Qr (by rw [h10.length];simp) fun k' p' hk'=> ?_
 rw [List.getElem?_set] at hk'
 split at hk'
 ·
  rename_i e1
  subst e1
  split at hk'
  ·
   obtain ⟨u,hu,gb⟩:=h10.at_ k p hk
   simp at hk';subst hk'
   have:=hp _ _ _ gb
   refine ⟨u,hu,this,?_⟩
   have hu2:u= .slice (some ⟨b,0,none⟩) rows.length cap:=this
   rw [hu2];exact h7
  · cases hk'
 · exact h10.at_ k' p' hk'
theorem Tr.jA {Q:Exit→Act→World→Prop} {c:Code} {b b0 cap sz:Nat} {e T:TypeId} {new:Bool} (rows:List (List Pr)) {qs ps ps':List Pr} (j i k:Nat) {p:Pr} (hj:rs[j]? =some (AB true b e (rows.flatten++qs))) (hi:rs[i]? =some (AB new b0 T ps)) (hij:j≠i) (hk:ps[k]? =some p) (hp:Pr.le p (is (.slice (some ⟨b,0,none⟩) rows.length cap)))
  (hl:∀r∈rows,r.length=sz) (hc:rows.length≤cap) (hm:cap≤maxLen) (hq:qs.length=(cap-rows.length)*sz) (hps:ps.set k (Ag (.slice (some ⟨b,0,none⟩) rows.length cap) (slice sz rows))=ps')
  (k':Tr L n E (Hp M0 w0 S ((rs.set j (Aq e sz (.slice (some ⟨b,0,none⟩) rows.length cap))).set i (AB new b0 T ps'))) c Q):Tr L n E (Hp M0 w0 S rs) c Q:=
 Tr.conv (fun _ _ hs=>hs.jA j i k hj hi hij hk hp hl hc hm hq hps) k'
end
abbrev str (l:List UInt8):Pr:=is (.string ⟨l.toArray⟩)
theorem KQ (l:List UInt8):(ByteArray.mk l.toArray).toList=l:=by rw [ByteArray.toList_eq]
theorem OZ (l:List UInt8):(ByteArray.mk l.toArray).size=l.length:=rfl
section
variable {P:Program} {L:Lg P} {E:Env} {I:CU} {o:Oper}
theorem pG {t u:TypeId} {x y:Operand} {a b:List UInt8} (ho:o.op= .binOp .eql t x y u) (hx:VL E x (str a)) (hy:VL E y (str b)):Aa P I o E (bool (decide (a=b))):=
 Aa.same fun M w ac he _=>by
  have h1:ac.eval x=_:=hx.ev he (by simp [ho,Op.operands])
  have h2:ac.eval y=_:=hy.ev he (by simp [ho,Op.operands])
  refine ⟨_,by simp [execOp,ho,h1,h2,eqGuard,binOp,Op.stringOp,KQ];rfl,?_⟩
  show Value.bool _=Value.bool _
  congr 1
  rw [Bool.eq_iff_iff];simp
theorem pH {t u:TypeId} {x y:Operand} {a b:List UInt8} (ho:o.op= .binOp .neq t x y u) (hx:VL E x (str a)) (hy:VL E y (str b)):Aa P I o E (bool (!decide (a=b))):=
 Aa.same fun M w ac he _=>by
  have h1:ac.eval x=_:=hx.ev he (by simp [ho,Op.operands])
  have h2:ac.eval y=_:=hy.ev he (by simp [ho,Op.operands])
  refine ⟨_,by simp [execOp,ho,h1,h2,eqGuard,binOp,Op.stringOp,KQ];rfl,?_⟩
  show Value.bool _=Value.bool _
  congr 1
  rw [Bool.eq_iff_iff];simp
theorem TT:∀(a b:List UInt8),Op.bytesLess a b=decide (Lib.compareBytes a b= -1)
 |_,[]=>by cases ‹List UInt8›<;>simp [Op.bytesLess,Lib.compareBytes]
 |[],_::_=>by simp [Op.bytesLess,Lib.compareBytes]
 |a::x,b::y=>by
  rw [Op.bytesLess,TT x y,Lib.compareBytes]
  by_cases h1:a<b
  · simp [h1]
  ·
   by_cases h2:b<a
   ·
    have h3:a≠b:=fun e=>by subst e;exact h1 h2
    simp [h1,h2,h3]
   ·
    have h3:a=b:=UInt8.le_antisymm (UInt8.not_lt.1 h2) (UInt8.not_lt.1 h1)
    simp [h1,h2,h3]
theorem Oa {t u:TypeId} {x y:Operand} {a b:List UInt8} (ho:o.op= .binOp .geq t x y u) (hx:VL E x (str a)) (hy:VL E y (str b)):Aa P I o E (bool (!decide (Lib.compareBytes a b= -1))):=
 Aa.same fun M w ac he _=>by
  have h1:ac.eval x=_:=hx.ev he (by simp [ho,Op.operands])
  have h2:ac.eval y=_:=hy.ev he (by simp [ho,Op.operands])
  exact ⟨_,by simp [execOp,ho,h1,h2,eqGuard,binOp,Op.stringOp,KQ,TT],rfl⟩
theorem jB {t:TypeId} {x:Operand} {a:List UInt8} (ho:o.op= .call { callee:= .builtin .len,args:= #[x],argTypes:= #[t] }) (ht:P.underlying t=some .string) (hx:VL E x (str a)):Aa P I o E (int ((a.length:Nat):Int)):=
 Aa.same fun M w ac he _=>by
  have h1:ac.eval x=_:=hx.ev he (by simp [ho,Op.operands,Call.operands])
  exact ⟨.int .i64 a.length,by simp [execOp,ho,resolve,invoke,builtin,Builtin.len_,h1,run_underlying ht,goInt,OZ],rfl⟩
theorem Rv {t:TypeId} {x y:Operand} {k:IntKind} {a:List UInt8} {i:Int} {c:UInt8} (ho:o.op= .index t x y) (ht:P.underlying t=some .string) (hx:VL E x (str a)) (hy:VL E y (is (.int k i))) (h0:0≤i) (hc:a[i.toNat]? =some c):Aa P I o E (is (.int .u8 c.toNat)):=
 Aa.same fun M w ac he _=>by
  have h1:ac.eval x=_:=hx.ev he (by simp [ho,Op.operands])
  have h2:ac.eval y=_:=hy.ev he (by simp [ho,Op.operands])
  refine ⟨_,?_,rfl⟩
  have hlt:i.toNat<a.length:=by rcases Nat.lt_or_ge i.toNat a.length with h|h;exact h;rw [List.getElem?_eq_none h] at hc;cases hc
  have h3:(ByteArray.mk a.toArray)[i.toNat]? =some c:=by
   rw [getElem?_pos (ByteArray.mk a.toArray) i.toNat (by rw [OZ];exact hlt)]
   rw [List.getElem?_eq_getElem hlt] at hc
   simp only [Option.some.injEq] at hc
   rw [←hc]
   rfl
  simp [execOp,ho,h1,h2,Instr.index,asIntOf,run_underlying ht,h0,h3]
theorem bC {s t e:TypeId} {x:Operand} {a:List UInt8} (ho:o.op= .convert s t x) (hs:P.underlying s=some .string) (ht:P.underlying t=some (.slice e)) (he:P.underlying e=some (.int .u8)) (hx:VL E x (str a)) (hm:a.length≤maxLen):Aa P I o E (slice 1 (a.map fun c=>[is (.int .u8 c.toNat)])):=
 Aa.val fun M w ac hev hI=>by
  have h1:ac.eval x=_:=hx.ev hev (by simp [ho,Op.operands])
  have hrun:=Lib.run_convert_string_bytes (P:=P) w s t e ⟨a.toArray⟩ hs ht he
  have hcap:=grownCap_ge w a.length 0 e
  have hcm:=grownCap_le_maxLen w a.length 0 e hm
  refine ⟨.slice (some ⟨w.heap.size,0,none⟩) a.length (grownCap w a.length 0 e),Lib.bytesWorld w e ⟨a.toArray⟩,by simp [execOp,ho,h1,hrun];exact ⟨rfl,rfl⟩,?_,?_⟩
  ·
   have hbd:Bd M w:=I.bd _ _ hI
   refine ⟨_,grownCap w a.length 0 e,by rw [List.length_map],by rw [List.length_map];exact hcap,hcm,(fun h=>by cases h),fun i row hr=> ?_⟩
   rw [List.getElem?_map] at hr
   cases hc:a[i]? with
   |none=>rw [hc] at hr;cases hr
   |some c=>
    rw [hc] at hr
    simp only [Option.map_some,Option.some.injEq] at hr
    subst hr
    have FQ:i<a.length:=by rcases Nat.lt_or_ge i a.length with h|h;exact h;rw [List.getElem?_eq_none h] at hc;cases hc
    refine ⟨rfl,_,rfl,fun j p hp=> ?_⟩
    have hj:j=0:=by
     rcases Nat.eq_zero_or_pos j with h|h
     · exact h
     · rw [List.getElem?_eq_none (by simp;omega)] at hp;cases hp
    subst hj
    simp only [List.getElem?_cons_zero,Option.some.injEq] at hp
    subst hp
    refine ⟨.int .u8 c.toNat,?_,fun hmm=> ?_,rfl,rfl⟩
    ·
     rw [show Addr.add ⟨w.heap.size,0,none⟩ (i*1+0)=⟨w.heap.size,i,none⟩ by unfold Addr.add;split<;>simp_all]
     rw [Lib.bytesWorld_cell w e ⟨a.toArray⟩ i (by rw [OZ];exact FQ)]
     have:([]++a).getD i 0=c:=by simp [hc]
     simp [hc]
    · have:=hbd _ _ hmm;simp at this
  · exact Lib.bytesWorld_below w e ⟨a.toArray⟩
theorem Rw {a:List UInt8} {k:Nat} {c:UInt8} (h:a[k]? =some c):a[((k:Nat):Int).toNat]? =some c:=h
theorem Ry {M:Av} {w:World} {v:Value} {xs:List Value} (h:(agg (xs.map is)).h M w v):v= .agg xs.toArray:=by
 obtain ⟨cs,rfl,ho,h2⟩:=h
 congr 1
 have:cs=xs:=by
  clear ho
  induction xs generalizing cs with
  |nil=>cases cs with
   |nil=>rfl
   |cons c cs=>exact h2.elim
  |cons x xs ih=>cases cs with
   |nil=>exact h2.elim
   |cons c cs=>rw [ih cs h2.2,show c=x from h2.1]
 rw [this]
theorem Ob {t u:TypeId} {x y:Operand} {r:Bool} (xs ys:List Value) (ho:o.op= .binOp .eql t x y u) (hx:VL E x (agg (xs.map is))) (hy:VL E y (agg (ys.map is))) (hg:P.eqGuardType P.depth t=false) (hr:∀w,(Op.equal t (.agg xs.toArray) (.agg ys.toArray)).run P w= .ok r w):Aa P I o E (bool r):=
 Aa.same fun M w ac he _=>by
  have h1:=Ry (hx.ev he (by simp [ho,Op.operands]))
  have h2:=Ry (hy.ev he (by simp [ho,Op.operands]))
  exact ⟨_,by simp [execOp,ho,h1,h2,eqGuard,hg,binOp,hr w],rfl⟩
theorem Oc {t u:TypeId} {x y:Operand} {r:Bool} (xs ys:List Value) (ho:o.op= .binOp .neq t x y u) (hx:VL E x (agg (xs.map is))) (hy:VL E y (agg (ys.map is))) (hg:P.eqGuardType P.depth t=false) (hr:∀w,(Op.equal t (.agg xs.toArray) (.agg ys.toArray)).run P w= .ok r w):Aa P I o E (bool (!r)):=
 Aa.same fun M w ac he _=>by
  have h1:=Ry (hx.ev he (by simp [ho,Op.operands]))
  have h2:=Ry (hy.ev he (by simp [ho,Op.operands]))
  exact ⟨_,by simp [execOp,ho,h1,h2,eqGuard,hg,binOp,hr w],rfl⟩
theorem eqS {P:Program} {w:World} {d:Nat} {t:TypeId} {fs:Array Field} {xs ys:Array Value} {r:Bool} (ht:P.underlying t=some (.struct fs)) (hp:P.stoodInHeld t=false) (h:(Op.eqFields d xs ys fs.toList).run P w= .ok r w):(Op.equalIn (d+1) t (.agg xs) (.agg ys)).run P w= .ok r w:=by
 have hf:P.fieldsOf t=fs:=by unfold Program.fieldsOf;rw [ht]
 rw [run_equalIn_struct w d t xs ys (by rw [hf];exact ht) hp,hf];exact h
theorem LO {P:Program} {w:World} {d:Nat} {xs ys:Array Value}:(Op.eqFields d xs ys []).run P w= .ok true w:=by simp [Op.eqFields]
theorem Em {P : Program} {w : World} {d : Nat} {xs ys : Array Value} {f : Field} {fs : List Field} {vx vy : Value} {r q : Bool} (hn : f.name ≠ "_") (ha : (part f.type xs f.offset).run P w = .ok vx w) (hb : (part f.type ys f.offset).run P w = .ok vy w)
  (he:(Op.equalIn d f.type vx vy).run P w= .ok r w) (hr:(Op.eqFields d xs ys fs).run P w= .ok q w):(Op.eqFields d xs ys (f::fs)).run P w= .ok (r&&q) w:=by
 simp only [Op.eqFields,hn,ne_eq,not_false_eq_true,if_true,Sem.run_bind,ha,hb,he,Result.andThen_ok]
 cases r
 · simp
 · simpa using hr
theorem Bv {P:Program} {w:World} {t:TypeId} {cs:Array Value} {off:Nat} {v:Value} (h1:D9 P t=true) (hv:cs[off]? =some v):(part t cs off).run P w= .ok v w:=by
 simp [part,D6 h1,hv]
theorem Fq {P:Program} {w:World} {d:Nat} {t:TypeId} {k:IntKind} {a b:Int} (h:P.underlying t=some (.int k)):(Op.equalIn (d+1) t (.int k a) (.int k b)).run P w= .ok (decide (a=b)) w:=by
 rw [run_equalIn_int w d t k k a b h];rfl
end
section
variable {P:Program} {L:Lg P} {E:Env} {I:CU} {o:Oper}
theorem Od {M:Av} {w:World} {sz:Nat} {rows:List (List Pr)} {A:Option Addr} {cap lo hi:Nat} (h:(slice sz rows).h M w (.slice A rows.length cap)) (h1:lo≤hi) (h2:hi≤rows.length):
  (slice sz ((rows.take hi).drop lo)).h M w (.slice (if cap=lo then A else A.map (·.add (lo*sz))) (hi-lo) (cap-lo)):=by
 obtain ⟨A',cap',hv,hc,hm,hA,hr⟩:=h
 injection hv with e1 _ e3
 subst e1;subst e3
 have hlen:((rows.take hi).drop lo).length=hi-lo:=by rw [List.length_drop,List.length_take];omega
 refine ⟨_,cap-lo,by rw [hlen],by rw [hlen];omega,by omega,fun h=> ?_,fun i row hi'=> ?_⟩
 ·
  split at h
  · have:=hA h;omega
  ·
   cases hA2:A with
   |none=>have:=hA hA2;omega
   |some a=>rw [hA2] at h;cases h
 ·
  rw [List.getElem?_drop,List.getElem?_take] at hi'
  split at hi'
  ·
   rename_i hlt
   obtain ⟨h3,ad,h4,h5⟩:=hr _ row hi'
   subst h4
   rw [if_neg (by omega)]
   refine ⟨h3,_,rfl,fun j p hp=> ?_⟩
   obtain ⟨u,h6,h7,h8,h9⟩:=h5 j p hp
   refine ⟨u,?_,?_,h8,h9⟩
   · rw [add_add,show lo*sz+(i*sz+j)=(lo+i)*sz+j by rw [Nat.add_mul];omega];exact h6
   · rw [HJ,K3,show ad.off+lo*sz+(i*sz+j)=ad.off+((lo+i)*sz+j) by rw [Nat.add_mul];omega];exact h7
  · cases hi'
theorem DU {t e:TypeId} {x y:Operand} {k:IntKind} {h:Int} {sz:Nat} {rows:List (List Pr)} (ho:o.op= .slice t x none (some y) none) (ht:P.underlying t=some (.slice e)) (hz:Ay P e=some sz) (hx:VL E x (slice sz rows)) (hy:VL E y (is (.int k h))) (h0:0≤h) (hl:h≤rows.length):
  Aa P I o E (slice sz (rows.take h.toNat)):=
 Aa.same fun M w a he _=>by
  have h1:=hx.ev he (by simp [ho,Op.operands])
  have h3:a.eval y=_:=hy.ev he (by simp [ho,Op.operands])
  obtain ⟨A,cap,hv,hc,hm,hA,hr⟩:=h1
  have h2:=Od (lo:=0) (hi:=h.toNat) (show (slice sz rows).h M w (.slice A rows.length cap) from ⟨A,cap,rfl,hc,hm,hA,hr⟩) (by omega) (by omega)
  refine ⟨_,?_,by simpa using h2⟩
  have hb:h≤(cap:Int):=by omega
  simp [execOp,ho,hv,h3,Instr.sliceAt,Instr.slice,run_underlying ht,Instr.sliceBounds,Instr.sliceBound,asIntOf,h0,hb,Ce hz]
theorem DM {t e:TypeId} {x y:Operand} {k:IntKind} {l:Int} {sz:Nat} {rows:List (List Pr)} (ho:o.op= .slice t x (some y) none none) (ht:P.underlying t=some (.slice e)) (hz:Ay P e=some sz) (hx:VL E x (slice sz rows)) (hy:VL E y (is (.int k l))) (h0:0≤l) (hl:l≤rows.length):
  Aa P I o E (slice sz (rows.drop l.toNat)):=
 Aa.same fun M w a he _=>by
  have h1:=hx.ev he (by simp [ho,Op.operands])
  have h3:a.eval y=_:=hy.ev he (by simp [ho,Op.operands])
  obtain ⟨A,cap,hv,hc,hm,hA,hr⟩:=h1
  have h2:=Od (lo:=l.toNat) (hi:=rows.length) (show (slice sz rows).h M w (.slice A rows.length cap) from ⟨A,cap,rfl,hc,hm,hA,hr⟩) (by omega) (Nat.le_refl _)
  rw [List.take_length] at h2
  refine ⟨_,?_,h2⟩
  simp [execOp,ho,hv,h3,Instr.sliceAt,Instr.slice,run_underlying ht,Instr.sliceBounds,Instr.sliceBound,asIntOf,h0,hl,Ce hz]
end
section
variable {P:Program} {L:Lg P} {n:Fm} {fz:Nat} {E:Env} {M0:Av} {w0:World} {S:Nat→Prop} {rs:List Ao} {o:Oper} {g:Func} {M1:Av} {w1:World}
theorem results0 {g:Func} {a:Act} {w:World} (hr:g.results= #[]):(results g a.tmps).run P w= .ok (.tuple #[]) w:=by
 rw [GQ,hr];simp [Sem.run_bind]
def TW (E:Env) (v0:Value) (q0:Pr):List Operand→List Pr→Prop
 |[],[]=>True
 |x::xs,p::ps=>(VL E x p∨(VL E x (is v0)∧Pr.le (Ag v0 q0) p))∧TW E v0 q0 xs ps
 |_,_=>False
theorem TW.ev {M M':Av} {w:World} {a:Act} {v0:Value} {q0:Pr} (he:CL M w E o a) (hx:Ext M w M' w) (h0:q0.h M' w v0):∀{xs:List Operand} {ps:List Pr},(∀x∈xs,x∈o.op.operands.toList)→TW E v0 q0 xs ps→HL M' w ps (xs.map a.eval)
 |[],[],_,_=>trivial
 |[],_::_,_,h=>h.elim
 |_::_,[],_,h=>h.elim
 |x::xs,p::ps,hm,h=>by
  refine ⟨?_,TW.ev he hx h0 (fun y hy=>hm y (List.mem_cons_of_mem _ hy)) h.2⟩
  rcases h.1 with h1|⟨h1,h2⟩
  · exact p.st _ _ _ _ _ hx (h1.ev he (hm x (by simp)))
  ·
   have h3:a.eval x=v0:=h1.ev he (hm x (by simp))
   exact h2 _ _ _ ⟨h3,by rw [h3];exact h0⟩
class MI (p:Pr):Prop where
 free:∀M M' w v,p.h M w v→p.h M' w v
instance xQ (u:Value):MI (is u):=⟨fun _ _ _ _ h=>h⟩
instance rY (m:Nat):MI (lens m):=⟨fun _ _ _ _ h=>h⟩
theorem jC {f:FuncId} {xs:Array Operand} {ts:Array TypeId} {ps:List Pr} {res:Pr} [MI res] {j d b cap sz:Nat} {e:TypeId} (rows:List (List Pr)) {qs:List Pr} (hg:o.guard=none) (hd:o.dst=some d) (hn:d<n) (ho:o.op= .call { callee:= .value (.func f),args:=xs,argTypes:=ts }) (hf:BA P f ps res)
  (hl:∀r∈rows,r.length=sz) (hc:rows.length≤cap) (hm:cap≤maxLen) (hq:qs.length=(cap-rows.length)*sz)
  (hv:TW E (.slice (some ⟨b,0,none⟩) rows.length cap) (slice sz rows) xs.toList ps):DI P M0 w0 S n j (SR.c (AB true b e (rows.flatten++qs))) (SR.c (AB true b e (rows.flatten++qs))) o E res:=by
 refine ⟨hg,fun M w a rs hsz he hI hj=> ?_⟩
 have hj':rs[j]? =some (AB true b e (rows.flatten++qs)):=hj
 obtain ⟨M',hx,Sz,hs⟩:=At.frz hI hj' hl hc hm hq
 have h1:=hv.ev (o:=o) he hx hs (xs:=xs.toList) (fun x hx=>by simp [ho,Op.operands,Call.operands];exact .inr (by simpa using hx))
 have hrun:(execOp a.eval o).run P w= .ok (.enter f (xs.toList.map a.eval).toArray) w:=by
  simp [execOp,ho,resolve,Deferred.ofValue,Act.eval,invoke,DH hf.1,GM xs]
 rw [hrun]
 refine (hf.2 M' w _ Sz.bd h1).mono ?_
 rintro e' w' ⟨v,rfl,h2,h3⟩
 refine ⟨v,M,rfl,MI.free _ _ _ _ h2,Ext.below h3,?_⟩
 have Iu:rs.set j (SR.at_ (a.put o.dst v) (SR.c (AB true b e (rows.flatten++qs))))=rs:=by
  rw [show SR.at_ (a.put o.dst v) (SR.c (AB true b e (rows.flatten++qs)))=AB true b e (rows.flatten++qs) from tB _ _]
  have hjl:j<rs.length:=by rcases Nat.lt_or_ge j rs.length with h|h;exact h;rw [List.getElem?_eq_none h] at hj';cases hj'
  rw [List.getElem?_eq_getElem hjl] at hj'
  simp only [Option.some.injEq] at hj'
  rw [←hj',List.set_getElem_self]
 rw [Iu]
 exact (Hp M0 w0 S rs).st _ _ _ h3 hI
end
def TX (es:List (Value×Value)):Array MapEntry:=(es.zipIdx.map fun p=>({ key:=p.1.1,val:=p.1.2,born:=p.2 }:MapEntry)).toArray
theorem Oe (es:List (Value×Value)) (i:Nat):(TX es)[i]? =(es[i]?).map fun p=>{ key:=p.1,val:=p.2,born:=i }:=by
 simp [TX,List.getElem?_zipIdx]
 cases es[i]? <;>simp
structure zN (P:Program) (T kt et:TypeId) {κ:Type} [DecidableEq κ] (enc:κ→Value):Prop where
 und:P.underlying T=some (.map kt et)
 zero:∀w,(zeroValue et).run P w= .ok (.int .i64 0) w
 eq:∀a b w,(Op.equal kt (enc a) (enc b)).run P w= .ok (decide (a=b)) w
 chk:∀e a w,(Instr.checkKey e 10000 kt (enc a)).run P w= .ok () w
 zO:∃d,P.underlying kt=some d∧((∀a b,Instr.sameNow d (enc a) (enc b)=none)∨∀a b,Instr.sameNow d (enc a) (enc b)=some (decide (a=b)))
 bits:∀a,Instr.sameBits 10000 (enc a) (enc a)=true
section
variable {P:Program} {L:Lg P} {n:Fm} {fz:Nat} {E:Env} {M0:Av} {w0:World} {S:Nat→Prop} {rs:List Ao} {o:Oper} {κ:Type} [DecidableEq κ] {enc:κ→Value}
abbrev Of (enc:κ→Value) (es:List (κ×Int)):List (Value×Value):=es.map fun p=>(enc p.1,.int .i64 p.2)
def pI (enc:κ→Value) (b:Nat) (es:List (κ×Int)):Ao where
 blk:=some b
 new:=true
 h M w:=(∀o,M b o)∧w.heap[b]? =some (.map (TX (Of enc es)) es.length)
 st M w M' w' he hk h:=by
  obtain ⟨h1,h2⟩:=hk b rfl
  exact ⟨fun o=>h2 o (h.1 o),h1.trans h.2⟩
theorem At.uM {M:Av} {w:World} {obj:Obj} {r:Ao} (h:At M0 w0 S rs M w) (hb:r.blk=some w.heap.size) (hn:r.new=true) (hr:r.h (fun b o=>M b o∨b=w.heap.size) (w.alloc obj)):
  At M0 w0 S (r::rs) (fun b o=>M b o∨b=w.heap.size) (w.alloc obj)∧Ext M w (fun b o=>M b o∨b=w.heap.size) (w.alloc obj):=by
 have Ru:Below w.heap.size w (w.alloc obj):=(Below.refl _ _).alloc (Nat.le_refl _) _
 have hsz:(w.alloc obj).heap.size=w.heap.size+1:=by simp
 have he:Ext M w (fun b o=>M b o∨b=w.heap.size) (w.alloc obj):=by
  have h2:=Ext.below (M:=M) Ru
  refine ⟨h2.size,fun a v hc hm=>⟨fun hx=> ?_,(h2.keep a v hc hm).2⟩,fun b o ho hp hm=>⟨fun hx=> ?_,(h2.obj b o ho hp hm).2⟩⟩
  ·
   rcases hx with hx|hx
   · exact hm hx
   · have:=EG hc;omega
  ·
   rcases hx with hx|hx
   · exact hm hx
   · subst hx;simp at ho
 have hI:=(Hp M0 w0 S rs).st _ _ _ Ru h
 refine ⟨⟨hI.m0,fun b o hm=> .inl (hI.m b o hm),hI.os,hI.tape,hI.output,hI.size,hI.block,fun b o hm=> ?_,fun r' hr'=> ?_,?_⟩,he⟩
 ·
  rcases hm with hm|hm
  · exact hI.bd b o hm
  · omega
 ·
  rcases List.mem_cons.1 hr' with rfl|hr'
  ·
   refine ⟨hr,fun b hbk=> ?_⟩
   rw [hb] at hbk
   injection hbk with hbk
   subst hbk
   exact ⟨by omega,by rw [hn];simpa using h.size⟩
  ·
   obtain ⟨h3,h4⟩:=h.hold r' hr'
   exact ⟨r'.st _ _ _ _ he (fun b hbk=>⟨Ru.block b (h4 b hbk).1,fun _ x=> .inl x⟩) h3,fun b hbk=>⟨by have:=(h4 b hbk).1;omega,(h4 b hbk).2⟩⟩
 ·
  refine List.Pairwise.cons (fun r' hr' b hbk Ee=> ?_) h.nd
  rw [hb] at hbk
  injection hbk with hbk
  have:=((h.hold r' hr').2 b Ee).1
  omega
def Dj (w:World) (b:Nat) (o:Obj):World:={ w with heap:=w.heap.setIfInBounds b o }
theorem jD {w:World} {b:Nat} {o:Obj} (h:b<w.heap.size):(Dj w b o).heap[b]? =some o:=by
 show (w.heap.setIfInBounds b o)[b]? =_
 rw [Array.getElem?_setIfInBounds];simp [h]
theorem KR {w:World} {b k:Nat} {o:Obj} (h:k≠b):(Dj w b o).heap[k]? =w.heap[k]? :=by
 show (w.heap.setIfInBounds b o)[k]? =_
 rw [Array.getElem?_setIfInBounds,if_neg (fun e=>h e.symm)]
theorem At.zP {M:Av} {w:World} {obj:Obj} {r r':Ao} {j b:Nat} (h:At M0 w0 S rs M w) (hj:rs[j]? =some r) (hb:r.blk=some b) (hb':r'.blk=some b) (hn:r.new=true) (hn':r'.new=true) (hM:∀o,M b o) (hr:r'.h M (Dj w b obj)):
  At M0 w0 S (rs.set j r') M (Dj w b obj)∧Ext M w M (Dj w b obj):=by
 have hlt:=((h.hold r (List.mem_of_getElem? hj)).2 b hb).1
 have hsz:(Dj w b obj).heap.size=w.heap.size:=by simp [Dj]
 have he:Ext M w M (Dj w b obj):=by
  refine ⟨by omega,fun a v hc hm=>⟨hm,?_⟩,fun k o ho hp hm=>⟨hm,?_⟩⟩
  · rw [World.cell?_of_block (w:=w) (KR (fun e=>hm (by rw [e];exact hM _)))];exact hc
  · rw [KR (fun e=>hm (by rw [e];exact hM _))];exact ho
 refine ⟨h.replace hj he rfl rfl rfl (fun k _ hk=>KR (fun e=>hk (by rw [hb,e]))) hn (fun _ _ hm _=>hm) (fun k o hm=>by rw [hsz];exact h.bd k o hm) hr hn' (fun k hk=> ?_),he⟩
 rw [hb'] at hk
 injection hk with hk
 subst hk
 exact ⟨by omega,.inl hb⟩
variable {Q:Exit→Act→World→Prop} {ops:Array Oper} {r:List Oper}
def Mv (it b m:Nat) (seen:List Nat):Ao where
 blk:=some it
 new:=true
 h M w:=(∀o,M it o)∧w.heap[it]? =some (.mapIter (some b) m seen.toArray m)
 st M w M' w' he hk h:=by
  obtain ⟨h1,h2⟩:=hk it rfl
  exact ⟨fun o=>h2 o (h.1 o),h1.trans h.2⟩
theorem TO.range {d j b:Nat} {T kt et:TypeId} {x:Operand} {es:List (κ×Int)} (hT:zN P T kt et enc) (hg:o.guard=none) (hd:o.dst=some d) (hn:d<n) (ho:o.op= .range T x) (hx:VL E x (is (.map (some b)))) (hj:rs[j]? =some (pI enc b es))
  (k:∀it,TO P n ops r ((d,ptr it 0)::E) (Hp M0 w0 S (Mv it b es.length []::rs)) Q):TO P n ops (o::r) E (Hp M0 w0 S rs) Q:=
 TO.YK hg fun K M w a hsz hdf he hI hK=>by
  have h1:a.eval x=_:=hx.ev (o:=o) (CH he) (by simp [ho,Op.operands])
  obtain ⟨_,hh⟩:=(At.hold hI _ (List.mem_of_getElem? hj)).1
  refine TO.val (v:= .pointer (some ⟨w.heap.size,0,none⟩)) (w':=w.alloc (.mapIter (some b) es.length #[] es.length)) ?_ ?_
  · simp [execOp,ho,h1,run_range_map w T kt et b _ _ hT.und hh]
  ·
   obtain ⟨h2,h3⟩:=At.uM (obj:= .mapIter (some b) es.length #[] es.length) (r:=Mv w.heap.size b es.length []) hI rfl rfl ⟨fun _=> .inr rfl,by rw [heap_alloc_new]⟩
   refine hK _ _ _ _ (k w.heap.size) ⟨_,by rw [Bm];exact hsz,by rw [put_defers];exact hdf,?_,h2⟩
   intro s p hp
   simp only [List.lookup] at hp
   by_cases hs:s=d
   · subst hs;simp at hp;subst hp;rw [hd,Ba (by rw [hsz];exact hn)];rfl
   ·
    rw [show (s==d)=false by simpa using hs] at hp
    rw [hd,BF hs]
    exact p.st _ _ _ _ _ h3 (he s p hp)
theorem mem_left {es:List (Value×Value)} {seen:List Nat} {e:MapEntry}:e∈(leftOf (TX es) seen.toArray).toList↔∃q p,es[q]? =some p∧q∉seen∧e={ key:=p.1,val:=p.2,born:=q }:=by
 unfold leftOf
 rw [Array.toList_filter,List.mem_filter]
 constructor
 ·
  rintro ⟨h1,h2⟩
  obtain ⟨q,hq⟩:=List.mem_iff_getElem?.1 h1
  rw [Array.getElem?_toList,Oe] at hq
  cases hp:es[q]? with
  |none=>rw [hp] at hq;cases hq
  |some p=>
   rw [hp] at hq
   simp only [Option.map_some,Option.some.injEq] at hq
   subst hq
   exact ⟨q,p,hp,by simpa using h2,rfl⟩
 ·
  rintro ⟨q,p,hp,hq,rfl⟩
  exact ⟨List.mem_iff_getElem?.2 ⟨q,by rw [Array.getElem?_toList,Oe,hp];rfl⟩,by simpa using hq⟩
theorem Rz {w:World} (ty:TypeId) {it b m:Nat} {seen:List Nat} {es:List (Value×Value)} (hm:es.length=m) (hit:w.heap[it]? =some (.mapIter (some b) m seen.toArray m)) (hb:w.heap[b]? =some (.map (TX es) m)):
  ((∀q,q<m→q∈seen)∧(Instr.next (.pointer (some ⟨it,0,none⟩)) false ty).run P w= .ok (.tuple #[.bool false]) w)∨
  ∃q p,es[q]? =some p∧q∉seen∧∃w1,(w1=w∨w1=w.drew)∧(Instr.next (.pointer (some ⟨it,0,none⟩)) false ty).run P w= .ok (.tuple #[.bool true,p.1,p.2]) (Dj w1 it (.mapIter (some b) m (seen++[q]).toArray m)):=by
 have hold:∀x∈(TX es).toList,x.born<m:=by
  intro x hx
  obtain ⟨q,hq⟩:=List.mem_iff_getElem?.1 hx
  rw [Array.getElem?_toList,Oe] at hq
  cases hp:es[q]? with
  |none=>rw [hp] at hq;cases hq
  |some p=>
   rw [hp] at hq
   simp only [Option.map_some,Option.some.injEq] at hq
   subst hq
   show q<m
   rcases Nat.lt_or_ge q es.length with h|h
   · omega
   · rw [List.getElem?_eq_none h] at hp;cases hp
 simp only [Instr.next,getObj,Sem.run_bind,Sem.run,hit,hb,Result.andThen,next_test_false seen.toArray (TX es) m m hold (Nat.le_refl _),Bool.false_eq_true,if_false]
 have hleft:(TX es).filter (fun e=> !seen.toArray.contains e.born)=leftOf (TX es) seen.toArray:=rfl
 rw [hleft]
 have hmem:∀x∈(leftOf (TX es) seen.toArray).toList,x.born<m:=fun x hx=>by
  obtain ⟨q,p,h1,_,rfl⟩:=mem_left.1 hx
  rcases Nat.lt_or_ge q es.length with h|h
  · show q<m;omega
  · rw [List.getElem?_eq_none h] at h1;cases h1
 have hml:∀e,e∈(leftOf (TX es) seen.toArray).toList↔∃q p,es[q]? =some p∧q∉seen∧e={ key:=p.1,val:=p.2,born:=q }:=fun e=>mem_left
 generalize leftOf (TX es) seen.toArray=L at hmem hml ⊢
 have e1:L.filter (fun x=>decide (x.born<m))=L:=Array.filter_eq_self.2 (fun x hx=>by simpa using hmem x (by simpa using hx))
 have e2:L.filter (fun x=>decide (x.born≥m))= #[]:=by
  rw [Array.filter_eq_empty_iff]
  intro x hx
  have:=hmem x (by simpa using hx)
  simp
  omega
 simp only [e1,e2,Array.append_empty]
 by_cases h0:L.size=0
 ·
  left
  have hL:L= #[]:=Array.eq_empty_of_size_eq_zero h0
  refine ⟨fun q hq=> ?_,?_⟩
  ·
   rcases Classical.em (q∈seen) with h|h
   · exact h
   ·
    have:=(hml { key:=(es[q]'(by omega)).1,val:=(es[q]'(by omega)).2,born:=q }).2 ⟨q,es[q]'(by omega),List.getElem?_eq_getElem (by omega),h,rfl⟩
    rw [hL] at this;simp at this
  ·
   subst hL
   simp [choose,Sem.run,Question.forced]
 ·
  right
  have hne:L.isEmpty=false:=by simp [Array.isEmpty,h0]
  simp only [hne,Bool.false_eq_true,if_false,Array.empty_append,Array.size_map]
  have hch:∃(j:Nat) (w1:World),j<L.size∧(w1=w∨w1=w.drew)∧(choose (Question.mapNext L.size)).run P w= .ok j w1:=by
   by_cases hf:L.size≤1
   · exact ⟨0,w,by omega,.inl rfl,by simp [choose,Sem.run,Question.forced,hf]⟩
   ·
    exact ⟨_, w.drew, Nat.mod_lt _ (by omega), .inr rfl, by
     simp only [choose,Sem.run,Question.forced,decide_eq_true_eq,hf,if_false,Question.cut]
     rfl⟩
  obtain ⟨j,w1,hj,hal,hrun⟩:=hch
  obtain ⟨q,p,hq1,YH,pJ⟩:=(hml L[j]).1 (by simp)
  refine ⟨q,p,hq1,YH,w1,hal,?_⟩
  have hw1:w1.heap=w.heap:=by rcases hal with rfl|rfl<;>rfl
  have Iu:∀(o':Obj),(setObj it o').run P w1= .ok () (Dj w1 it o'):=fun o'=>by
   have zQ:w1.heap[it]? =some (.mapIter (some b) m seen.toArray m):=by rw [hw1];exact hit
   simp only [setObj,Sem.run,zQ]
   rfl
  simp only [hrun,Array.getElem?_map,Array.getElem?_eq_getElem hj,Option.map_some,Sem.run_bind,Iu,Result.andThen]
  rw [pJ]
  simp
omit [DecidableEq κ] in
theorem TO.next {d i j it b:Nat} {x:Operand} {es:List (κ×Int)} {seen:List Nat} (hg:o.guard=none) (hd:o.dst=some d) (hn:d<n) (ho:o.op= .next x false) (hx:VL E x (ptr it 0)) (hi:rs[i]? =some (Mv it b es.length seen)) (hj:rs[j]? =some (pI enc b es))
  (k1:(∀q,q<es.length→q∈seen)→TO P n ops r ((d,EK [bool false])::E) (Hp M0 w0 S rs) Q)
  (k2:∀q p,es[q]? =some p→q∉seen→TO P n ops r ((d,EK [bool true,is (enc p.1),int p.2])::E) (Hp M0 w0 S (rs.set i (Mv it b es.length (seen++[q])))) Q):TO P n ops (o::r) E (Hp M0 w0 S rs) Q:=
 TO.YK hg fun K M w a hsz hdf he hI hK=>by
  have h1:a.eval x= .pointer (some ⟨it,0,none⟩):=hx.ev (o:=o) (CH he) (by simp [ho,Op.operands])
  obtain ⟨⟨hMi,hit⟩,hbi⟩:=At.hold hI _ (List.mem_of_getElem? hi)
  obtain ⟨_,hh⟩:=(At.hold hI _ (List.mem_of_getElem? hj)).1
  have hlt:=(hbi it rfl).1
  rcases Rz (P:=P) o.type (es:=Of enc es) (by simp [Of]) hit hh with ⟨h2,h3⟩|⟨q,p,h2,h3,w1,h4,h5⟩
  ·
   refine TO.val (v:= .tuple #[.bool false]) (w':=w) ?_ ?_
   · simp [execOp,ho,h1,h3]
   ·
    refine hK _ _ _ _ (k1 h2) ⟨M,by rw [Bm];exact hsz,by rw [put_defers];exact hdf,?_,hI⟩
    intro s p hp
    simp only [List.lookup] at hp
    by_cases hs:s=d
    · subst hs;simp at hp;subst hp;rw [hd,Ba (by rw [hsz];exact hn)];exact ⟨_,rfl,rfl,trivial⟩
    ·
     rw [show (s==d)=false by simpa using hs] at hp
     rw [hd,BF hs];exact he s p hp
  ·
   have R3:∃p',es[q]? =some p'∧p=(enc p'.1,.int .i64 p'.2):=by
    simp only [Of,List.getElem?_map] at h2
    cases h:es[q]? with
    |none=>rw [h] at h2;cases h2
    |some p'=>rw [h] at h2;simp at h2;exact ⟨p',rfl,h2.symm⟩
   obtain ⟨p',hp',rfl⟩:=R3
   refine TO.val (v:= .tuple #[.bool true,enc p'.1,.int .i64 p'.2]) (w':=Dj w1 it (.mapIter (some b) es.length (seen++[q]).toArray es.length)) ?_ ?_
   · simp [execOp,ho,h1,h5]
   ·
    have pK:Below w.heap.size w w1:=by
     rcases h4 with rfl|rfl
     · exact Below.refl _ _
     · exact (Below.refl _ _).drew
    have hI1:=(Hp M0 w0 S rs).st _ _ _ pK hI
    obtain ⟨h6,h7⟩:=At.zP (obj:= .mapIter (some b) es.length (seen++[q]).toArray es.length) (r':=Mv it b es.length (seen++[q])) hI1 hi rfl rfl rfl rfl hMi ⟨hMi,jD (Nat.lt_of_lt_of_le hlt pK.size)⟩
    refine hK _ _ _ _ (k2 q p' hp' h3) ⟨M,by rw [Bm];exact hsz,by rw [put_defers];exact hdf,?_,h6⟩
    intro s p hp
    simp only [List.lookup] at hp
    by_cases hs:s=d
    · subst hs;simp at hp;subst hp;rw [hd,Ba (by rw [hsz];exact hn)];exact ⟨_,rfl,rfl,rfl,rfl,trivial⟩
    ·
     rw [show (s==d)=false by simpa using hs] at hp
     rw [hd,BF hs]
     exact p.st _ _ _ _ _ ((Ext.below pK).trans h7) (he s p hp)
omit [DecidableEq κ] in
theorem TO.entry {d i j it b q:Nat} {x:Operand} {es:List (κ×Int)} {seen:List Nat} {p:κ×Int} (hg:o.guard=none) (hd:o.dst=some d) (hn:d<n) (ho:o.op= .entry x) (hx:VL E x (ptr it 0)) (hi:rs[i]? =some (Mv it b es.length (seen++[q]))) (hj:rs[j]? =some (pI enc b es)) (hq:es[q]? =some p)
  (k:TO P n ops r ((d,EK [is (enc p.1),int p.2])::E) (Hp M0 w0 S rs) Q):TO P n ops (o::r) E (Hp M0 w0 S rs) Q:=
 TO.YK hg fun K M w a hsz hdf he hI hK=>by
  have h1:a.eval x= .pointer (some ⟨it,0,none⟩):=hx.ev (o:=o) (CH he) (by simp [ho,Op.operands])
  obtain ⟨⟨_,hit⟩,_⟩:=At.hold hI _ (List.mem_of_getElem? hi)
  obtain ⟨_,hh⟩:=(At.hold hI _ (List.mem_of_getElem? hj)).1
  have hat:(TX (Of enc es))[q]? =some { key:=enc p.1,val:= .int .i64 p.2,born:=q }:=by rw [Oe];simp [Of,hq]
  have hnd:((TX (Of enc es)).toList.map (·.born)).Nodup:=by
   have:(TX (Of enc es)).toList.map (·.born)=List.range (Of enc es).length:=by
    apply List.ext_getElem?
    intro k
    rw [List.getElem?_map,Array.getElem?_toList,Oe]
    by_cases hk:k<(Of enc es).length
    · rw [List.getElem?_range hk,List.getElem?_eq_getElem hk];rfl
    · rw [List.getElem?_eq_none (Nat.le_of_not_lt hk),List.getElem?_eq_none (by simp at hk ⊢;omega)];rfl
   rw [this];exact List.nodup_range
  have hfind:(TX (Of enc es)).find? (fun e=>e.born==q)=some { key:=enc p.1,val:= .int .i64 p.2,born:=q }:=by
   rw [←Array.find?_toList]
   exact find_born { key:=enc p.1,val:= .int .i64 p.2,born:=q } _ hnd (List.mem_iff_getElem?.2 ⟨q,by rw [Array.getElem?_toList];exact hat⟩)
  refine TO.val (v:= .tuple #[enc p.1,.int .i64 p.2]) (w':=w) ?_ ?_
  ·
   have:(Instr.entry (.pointer (some ⟨it,0,none⟩))).run P w= .ok (.tuple #[enc p.1,.int .i64 p.2]) w:=by
    have hb:(seen++[q]).toArray.back? =some q:=by simp
    simp only [Instr.entry,getObj,Sem.run_bind,Sem.run,hit,hh,Result.andThen,hb,bne_self_eq_false,Bool.false_eq_true,if_false,hfind]
    rfl
   simp [execOp,ho,h1,this]
  ·
   refine hK _ _ _ _ k ⟨M,by rw [Bm];exact hsz,by rw [put_defers];exact hdf,?_,hI⟩
   intro s p hp
   simp only [List.lookup] at hp
   by_cases hs:s=d
   · subst hs;simp at hp;subst hp;rw [hd,Ba (by rw [hsz];exact hn)];exact ⟨_,rfl,rfl,rfl,trivial⟩
   ·
    rw [show (s==d)=false by simpa using hs] at hp
    rw [hd,BF hs];exact he s p hp
end
section
variable {P:Program} {L:Lg P}
end
section
variable {P:Program} {L:Lg P} {n:Fm} {fz:Nat} {E:Env} {M0:Av} {w0:World} {S:Nat→Prop} {rs:List Ao} {o:Oper}
theorem NR (w:World) (A:Option Addr) (t ty e:TypeId) (i:TypeInfo) (z:Value) (ht:P.underlying t=some (.slice e)) (hi:P.info? e=some i) (hz:i.zero=some z)
  (a:Addr) (n c:Nat) (news:List Value) (hl:news.length=n*i.size) (hnews:∀j v,news[j]? =some v→w.cell? (a.add j)=some v)
  (h0:0<n) (h63:(n:Int)≤9223372036854775807) (h48:n*i.bytes≤281474976710656):
  (Builtin.append_ #[t, t] ty #[.slice A 0 0, .slice (some a) n c]).run P w =
   .ok (.slice (some ⟨w.heap.size,0,none⟩) n (grownCap w n 0 e)) (w.drew.alloc (.cells (news.toArray++Builtin.zeroCells z.cells (grownCap w n 0 e-n)) e)):=by
 cases A with
 |none=>exact run_append_nil (w:=w) t ty e i z ht hi hz a n c news hl hnews h0 h63 h48
 |some b=>
  have:=run_append_grow (w:=w) t ty e i z ht hi hz b 0 0 [] (by simp) (by simp) a n c news hl hnews (by omega) (by simpa using h63) (by rw [Nat.zero_add,nextslicecap_zero h0];exact h48)
  simpa using this
theorem bD {M:Av} {w:World} {t ty e:TypeId} {sz bytes:Nat} {zs:List Value} {rows:List (List Pr)} {u:Value} {j:Nat} (A:Option Addr) (ht:P.underlying t=some (.slice e)) (hz:Ay P e=some sz) (hby:Bk P e=some bytes) (EM:BL P e=some zs) (hzl:zs.length=sz) (hone:zs.all (·.oneCell')=true) (hsz:0<sz)
  (h:At M0 w0 S rs M w) (hj:rs[j]? =some Bp) (hu:(slice sz rows).h M w u) (hpos:0<rows.length) (Fv:rows.length≤maxLen) (hfit:rows.length*bytes≤140737488355328):
  ∃v' w' M',(Builtin.append_ #[t,t] ty #[.slice A 0 0,u]).run P w= .ok v' w'∧(lens rows.length).h M' w' v'∧Ext M w M' w'∧At M0 w0 S (rs.set j (HE e sz rows v')) M' w':=by
 unfold Ay at hz
 unfold Bk at hby
 unfold BL at EM
 cases hi:P.info? e with
 |none=>rw [hi] at hz;cases hz
 |some i=>
  rw [hi] at hz hby EM
  simp only [Option.map_some,Option.some.injEq,Option.map_eq_some_iff] at hz hby EM
  obtain ⟨z,Wl,EM⟩:=EM
  have Zs:z.cells.size=sz:=by rw [←hzl,←EM];simp
  obtain ⟨A',c',rfl,nX,Ut,gN,GN⟩:=hu
  have Rb:(slice sz rows).h M w (.slice A' rows.length c'):=⟨A',c',rfl,nX,Ut,gN,GN⟩
  obtain ⟨Qe,rfl⟩:∃Qe,A'=some Qe:=by
   obtain ⟨_,b,hb,_⟩:=GN 0 _ (List.getElem?_eq_getElem hpos)
   exact ⟨b,hb⟩
  obtain ⟨news,hfl,hcell⟩:=FW hsz Rb
  have hrun:=NR (P:=P) w A t ty e i z ht hi Wl Qe rows.length c' news (by rw [hz];exact hfl.1) (fun k u hk=>(hcell k u hk).1) hpos (by unfold maxLen at Fv;omega) (by rw [hby];omega)
  generalize hcap:grownCap w rows.length 0 e=cap at hrun
  have hge:rows.length≤cap:=by rw [←hcap];exact grownCap_ge _ _ _ _
  have hle:cap≤maxLen:=by rw [←hcap];exact grownCap_le_maxLen _ _ _ _ Fv
  generalize P8:Builtin.zeroCells z.cells (cap-rows.length)=zc at hrun
  have hzs:zc.size=(cap-rows.length)*sz:=by rw [←P8,size_zeroCells,Zs]
  have hzo:∀c∈zc.toList,c.oneCell'=true:=by rw [←P8];exact Fp EM hone
  have hb:Below w.heap.size w (w.drew.alloc (.cells (news.toArray++zc) e)):=((Below.refl _ _).drew).alloc (Nat.le_refl _) _
  have h2:=Ext.below (M:=M) hb
  have Ej:Ext M w (fun b o=>M b o∨b=w.heap.size) (w.drew.alloc (.cells (news.toArray++zc) e)):=by
   refine ⟨h2.size,fun a v hc hm=>⟨fun hx=> ?_,(h2.keep a v hc hm).2⟩,fun b o ho hp hm=>⟨fun hx=> ?_,(h2.obj b o ho hp hm).2⟩⟩
   ·
    rcases hx with hx|hx
    · exact hm hx
    · have:=EG hc;omega
   ·
    rcases hx with hx|hx
    · exact hm hx
    · subst hx;simp at ho
  have hs1:(w.drew.alloc (.cells (news.toArray++zc) e)).heap.size=w.heap.size+1:=by simp
  refine ⟨_,_,fun b o=>M b o∨b=w.heap.size,hrun,⟨_,_,rfl⟩,Ej,?_⟩
  refine h.replace hj Ej hb.os hb.tape hb.output (fun k hk _=>hb.block k hk) rfl (fun b o hm _=> .inl hm) (fun b o hx=> ?_) ?_ rfl (fun b hbk=> ?_)
  ·
   rcases hx with hx|hx
   · have:=h.bd _ _ hx;omega
   · omega
  ·
   refine ⟨w.heap.size,cap,zc.toList,rfl,hge,hle,by simpa using hzs,fun o=> .inr rfl,news++zc.toList,?_,?_,?_⟩
   ·
    have hh:(w.drew.alloc (.cells (news.toArray++zc) e)).heap[w.heap.size]? =some (.cells (news.toArray++zc) e (0,0)):=heap_alloc_new w.drew _
    rw [hh];simp
   · exact ((hfl.st Ej).hl hsz).app (J7 _ _ _)
   ·
    intro c hc
    rcases List.mem_append.1 hc with hc|hc
    · exact hfl.2.1 c hc
    · exact hzo c hc
  ·
   have Ee:some w.heap.size=some b:=hbk
   injection Ee with e1
   subst e1
   exact ⟨by rw [hs1];omega,.inr (Nat.le_refl _)⟩
theorem LP {I:CU} {t e:TypeId} {x:Operand} {A:Option Addr} {m cap:Nat} (ho:o.op= .call { callee:= .builtin .len,args:= #[x],argTypes:= #[t] }) (ht:P.underlying t=some (.slice e)) (hx:VL E x (is (.slice A m cap))):Aa P I o E (int m):=
 Aa.same fun M w a he _=>by
  have h1:a.eval x=_:=hx.ev he (by simp [ho,Op.operands,Call.operands])
  exact ⟨.int .i64 m,by simp [execOp,ho,resolve,invoke,builtin,Builtin.len_,h1,run_underlying ht,goInt],rfl⟩
theorem Mw {I:CU} {t e:TypeId} {x y:Operand} {k:IntKind} {h:Int} {sz b m cap:Nat} (ho:o.op= .slice t x none (some y) none) (ht:P.underlying t=some (.slice e)) (hz:Ay P e=some sz) (hx:VL E x (is (.slice (some ⟨b,0,none⟩) m cap))) (hy:VL E y (is (.int k h))) (h0:0≤h) (hl:h≤m) (hc:m≤cap) (h1m:0<cap):
  Aa P I o E (is (.slice (some ⟨b,0,none⟩) h.toNat cap)):=
 Aa.same fun M w a he _=>by
  have h1:a.eval x=_:=hx.ev he (by simp [ho,Op.operands])
  have h3:a.eval y=_:=hy.ev he (by simp [ho,Op.operands])
  have hb:h≤(cap:Int):=by omega
  refine ⟨_,?_,rfl⟩
  simp [execOp,ho,h1,h3,Instr.sliceAt,Instr.slice,run_underlying ht,Instr.sliceBounds,Instr.sliceBound,asIntOf,h0,hb,Ce hz]
  intro _;rfl
theorem QD {I:CU} {t e:TypeId} {x y:Operand} {k:IntKind} {l:Int} {sz b m cap:Nat} (ho:o.op= .slice t x (some y) none none) (ht:P.underlying t=some (.slice e)) (hz:Ay P e=some sz) (hx:VL E x (is (.slice (some ⟨b,0,none⟩) m cap))) (hy:VL E y (is (.int k l))) (h0:0≤l) (hl:l<m) (hc:m≤cap):
  Aa P I o E (is (.slice (some ⟨b,l.toNat*sz,none⟩) (m-l.toNat) (cap-l.toNat))):=
 Aa.same fun M w a he _=>by
  have h1:a.eval x=_:=hx.ev he (by simp [ho,Op.operands])
  have h3:a.eval y=_:=hy.ev he (by simp [ho,Op.operands])
  have hb:l≤(m:Int):=by omega
  have hne:¬cap=l.toNat:=by omega
  refine ⟨_,?_,rfl⟩
  simp [execOp,ho,h1,h3,Instr.sliceAt,Instr.slice,run_underlying ht,Instr.sliceBounds,Instr.sliceBound,asIntOf,h0,hb,Ce hz,hne,Fx]
theorem jE {M:Av} {w:World} {zs:List Value} {z:Array Value} {k:Nat} (hz:z.toList=zs) (h0:0<zs.length):HL M w (List.replicate k (zs.map is)).flatten (Builtin.zeroCells z k).toList:=by
 have hlr:∀r∈List.replicate k (zs.map is),r.length=zs.length:=fun r hr=>by rw [List.eq_of_mem_replicate hr,List.length_map]
 have hfl:=CZ hlr
 rw [List.length_replicate] at hfl
 have hzs:z.size=zs.length:=by rw [←hz];simp
 refine Qr (by rw [Array.length_toList,size_zeroCells,hfl,hzs]) fun i p hi=> ?_
 have FQ:i<k*zs.length:=by rw [←hfl];rcases Nat.lt_or_ge i (List.replicate k (zs.map is)).flatten.length with h|h;exact h;rw [List.getElem?_eq_none h] at hi;cases hi
 have hq:i/zs.length<k:=Nat.div_lt_of_lt_mul (by rw [Nat.mul_comm];exact FQ)
 have hm:i % zs.length<zs.length:=Nat.mod_lt _ h0
 have he:i/zs.length*zs.length+i % zs.length=i:=by rw [Nat.mul_comm];exact Nat.div_add_mod i _
 rw [←he,H6 hlr (by rw [List.getElem?_replicate,if_pos hq]) hm,List.getElem?_map,List.getElem?_eq_getElem hm] at hi
 simp only [Option.map_some,Option.some.injEq] at hi
 subst hi
 refine ⟨zs[i % zs.length],?_,rfl⟩
 have hzl:i<k*z.size:=by rw [hzs];exact FQ
 simp only [Builtin.zeroCells,Array.toList_map,Array.toList_range,List.getElem?_map]
 rw [List.getElem?_range hzl]
 subst hz
 simp only [Option.map_some,Option.some.injEq]
 have hm':i % z.size<z.size:=by rw [hzs];exact hm
 rw [getElem!_pos z _ hm',←Array.getElem_toList]
 congr 1
theorem bE {t e:TypeId} {x:Operand} {j:Nat} {new:Bool} {b off m cap sz:Nat} {zs:List Value} {T:TypeId} {ps ps':List Pr} (hg:o.guard=none) (ho:o.op= .call { callee:= .builtin .clear,args:= #[x],argTypes:= #[t] })
  (ht:P.underlying t=some (.slice e)) (hz:Ay P e=some sz) (EM:BL P e=some zs) (hzl:zs.length=sz) (hone:zs.all (·.oneCell')=true) (hsz:0<sz) (hx:VL E x (is (.slice (some ⟨b,off,none⟩) m cap))) (hm:0<m)
  (hl:off+m*sz≤ps.length) (hps:ps.take off++(List.replicate m (zs.map is)).flatten++ps.drop (off+m*sz)=ps'):DI P M0 w0 S n j (SR.c (AB new b T ps)) (SR.c (AB new b T ps')) o E any:=by
 refine ⟨hg,fun M w a rs NL he hI hj=> ?_⟩
 have h1:a.eval x=_:=hx.ev he (by simp [ho,Op.operands,Call.operands])
 unfold BL at EM
 cases hi:P.info? e with
 |none=>rw [hi] at EM;cases EM
 |some i=>
  rw [hi] at EM
  simp only [Option.map_eq_some_iff] at EM
  obtain ⟨z,Wl,EM⟩:=EM
  have Zs:z.cells.size=sz:=by rw [←hzl,←EM];simp
  obtain ⟨⟨_,cs,h4,h5,h6⟩,_⟩:=hI.hold _ (List.mem_of_getElem? hj)
  have h5l:=h5.length
  have hzs:(Builtin.zeroCells z.cells m).size=m*sz:=by rw [size_zeroCells,Zs]
  have h3:∀c∈(Builtin.zeroCells z.cells m).toList,c.oneCell'=true:=Fp EM hone
  have hrun:(storeCells ⟨b,off,none⟩ (Builtin.zeroCells z.cells m).toList 0).run P w= .ok () (w.setRow b (cs.take off++(Builtin.zeroCells z.cells m).toList++cs.drop (off+m*sz)).toArray):=by
   have:=run_storeCells_at (P:=P) b off T (Builtin.zeroCells z.cells m).toList 0 cs.toArray w h4 (by simp [hzs];omega) h3
   simpa [hzs] using this
  obtain ⟨m',rfl⟩:∃m',m=m'+1:=⟨m-1,by omega⟩
  have E7:(execOp a.eval o).run P w= .ok (.value (.tuple #[])) (w.setRow b (cs.take off++(Builtin.zeroCells z.cells (m'+1)).toList++cs.drop (off+(m'+1)*sz)).toArray):=by
   simp [execOp,ho,h1,resolve,invoke,builtin,Builtin.clear_,run_underlying ht,zeroValue,typeInfo,hi,Wl,hrun]
  rw [E7]
  obtain ⟨h7, h8⟩ := At.write (qs := ps') (cs := cs.take off ++ (Builtin.zeroCells z.cells (m' + 1)).toList ++ cs.drop (off + (m' + 1) * sz)) hI hj (by rw [← hps]; exact (((h5.take off).app (jE EM (by omega)))).app (h5.drop (off + (m' + 1) * sz)))
   (fun c hc=>by
    simp only [List.mem_append] at hc
    rcases hc with (hc|hc)|hc
    · exact h6 c (List.mem_of_mem_take hc)
    · exact h3 c hc
    · exact h6 c (List.mem_of_mem_drop hc))
  exact ⟨M,trivial,h8,h7⟩
theorem bF {β:Type} {f:β→List Pr} {l:List β} {qs:List Pr} {sz:Nat} (hf:∀x,(f x).length=sz) {i:Nat} {x:β} (h:l[i]? =some x):((((l.map f).flatten++qs).drop (i*sz)).take sz)=f x:=by
 have hl:∀r∈l.map f,r.length=sz:=fun r hr=>by obtain ⟨y,_,rfl⟩:=List.mem_map.1 hr;exact hf y
 have hi:i<l.length:=by rcases Nat.lt_or_ge i l.length with h'|h';exact h';rw [List.getElem?_eq_none h'] at h;cases h
 have hfl:=CZ hl
 rw [List.length_map] at hfl
 have hle:(i+1)*sz≤l.length*sz:=Nat.mul_le_mul_right sz hi
 rw [Nat.add_mul,Nat.one_mul] at hle
 apply List.ext_getElem?
 intro k
 rw [List.getElem?_take]
 split
 ·
  rename_i hk
  rw [List.getElem?_drop,List.getElem?_append_left (by rw [hfl];omega),H6 hl (by rw [List.getElem?_map,h];rfl) hk]
 ·
  rename_i hk
  rw [List.getElem?_eq_none (by rw [hf];omega)]
theorem MJ {β:Type} {f:β→List Pr} {sz:Nat} (hf:∀x,(f x).length=sz):∀{l:List β} {qs:List Pr} {i:Nat} {x:β},i<l.length→((l.map f).flatten++qs).take (i*sz)++f x++((l.map f).flatten++qs).drop (i*sz+sz)=((l.set i x).map f).flatten++qs
 |[],_,_,_,h=>by simp at h
 |a::l,qs,0,x,_=>by
  simp only [List.map_cons,List.flatten_cons,Nat.zero_mul,List.take_zero,List.nil_append,Nat.zero_add,List.set_cons_zero]
  rw [←hf a,List.append_assoc,List.drop_left,List.append_assoc]
 |a::l,qs,i+1,x,h=>by
  have ih:=MJ hf (l:=l) (qs:=qs) (i:=i) (x:=x) (by simpa using h)
  simp only [List.map_cons,List.flatten_cons,List.set_cons_succ]
  have e1:(i+1)*sz=(f a).length+i*sz:=by rw [hf a,Nat.add_mul];omega
  rw [List.append_assoc,List.append_assoc,e1,List.take_append,List.take_of_length_le (by omega),show (f a).length+i*sz-(f a).length=i*sz by omega,show (f a).length+i*sz+sz=(f a).length+(i*sz+sz) by omega,List.drop_append,List.drop_of_length_le (by omega),show (f a).length+(i*sz+sz)-(f a).length=i*sz+sz by omega,List.nil_append,List.append_assoc (f a) _ qs,←ih]
  simp only [List.append_assoc]
theorem TO.OY {ops:Array Oper} {r:List Oper} {Q:Exit→Act→World→Prop} {e:TypeId} {sz:Nat} {rows:List (List Pr)} {v:Value} (j:Nat) (hj:rs[j]? =some (HE e sz rows v))
  (k:∀(b cap:Nat) (spare:List Value),v= .slice (some ⟨b,0,none⟩) rows.length cap→rows.length≤cap→cap≤maxLen→spare.length=(cap-rows.length)*sz→TO P n ops r E (Hp M0 w0 S (rs.set j (AB true b e (rows.flatten++spare.map is)))) Q):TO P n ops r E (Hp M0 w0 S rs) Q:=
 fun m hl a w hs=>let ⟨b,cap,spare,h1,h2,h3,h4,h5⟩:=hs.OY j hj;k b cap spare h1 h2 h3 h4 m hl a w h5
theorem GI {β:Type} {f:β→List Pr} {l:List β} {qs:List Pr} {sz:Nat} (hf:∀x,(f x).length=sz):((l.map f).flatten++qs).length=l.length*sz+qs.length:=by
 rw [List.length_append,CZ (sz:=sz) (fun r hr=>by obtain ⟨y,_,rfl⟩:=List.mem_map.1 hr;exact hf y),List.length_map]
theorem Bg {β:Type} {f:β→List Pr} {l:List β} {sz:Nat} (hf:∀x,(f x).length=sz):∀r∈l.map f,r.length=sz:=fun r hr=>by obtain ⟨y,_,rfl⟩:=List.mem_map.1 hr;exact hf y
theorem U9 {β:Type} {f:β→List Pr} {sz:Nat} (hf:∀x,(f x).length=sz) {l:List β} {qs:List Pr} {i:Nat} {x:β} (h:i<l.length):((l.map f).flatten++qs).take (0+((i:Nat):Int).toNat*sz)++f x++((l.map f).flatten++qs).drop (0+((i:Nat):Int).toNat*sz+sz)=((l.set i x).map f).flatten++qs:=by
 rw [Nat.zero_add,Int.toNat_natCast];exact MJ hf h
def TY {β:Type} (p:β→Bool) (l st:List β) (i j:Nat):Prop:=st.length=l.length∧i<j∧j≤l.length∧st.take i=(l.take j).filter (fun x=> !p x)∧st.drop j=l.drop j
theorem bG {β:Type} {p:β→Bool} {l st:List β} {i j:Nat} {x:β} (h:TY p l st i j) (hx:l[j]? =some x) (hp:p x=false):TY p l (st.set i x) (i+1) (j+1):=by
 obtain ⟨h1,h2,h3,h4,h5⟩:=h
 have hj:j<l.length:=by rcases Nat.lt_or_ge j l.length with h'|h';exact h';rw [List.getElem?_eq_none h'] at hx;cases hx
 refine ⟨by rw [List.length_set,h1],by omega,hj,?_,?_⟩
 ·
  rw [List.take_add_one,List.getElem?_set_self (by omega),List.take_set_of_le (Nat.le_refl _),h4,List.take_add_one,hx,List.filter_append]
  simp [hp]
 · rw [List.drop_set_of_lt (by omega),←List.drop_drop,←List.drop_drop,h5]
theorem bH {β:Type} {p:β→Bool} {l st:List β} {i j:Nat} {x:β} (h:TY p l st i j) (hx:l[j]? =some x) (hp:p x=true):TY p l st i (j+1):=by
 obtain ⟨h1,h2,h3,h4,h5⟩:=h
 have hj:j<l.length:=by rcases Nat.lt_or_ge j l.length with h'|h';exact h';rw [List.getElem?_eq_none h'] at hx;cases hx
 refine ⟨h1,by omega,hj,?_,?_⟩
 · rw [h4,List.take_add_one,hx,List.filter_append];simp [hp]
 · rw [←List.drop_drop,←List.drop_drop,h5]
theorem pL {β:Type} {p:β→Bool} {l st:List β} {i j:Nat} (h:TY p l st i j):st[j]? =l[j]? :=by
 have:=congrArg (fun q=>q[0]?) h.2.2.2.2
 simpa using this
theorem jF {β:Type} {p:β→Bool} {l st:List β} {i:Nat} (h:TY p l st i l.length):st.take i=l.filter (fun x=> !p x)∧i=(l.filter (fun x=> !p x)).length∧st.length=l.length∧i<l.length:=by
 obtain ⟨h1,h2,h3,h4,h5⟩:=h
 rw [List.take_length] at h4
 exact ⟨h4,by rw [←h4,List.length_take];omega,h1,h2⟩
theorem St.U_ {b cap sz:Nat} {e:TypeId} {rows:List (List Pr)} {qs:List Pr} (j d:Nat) {p:Pr} (hj:rs[j]? =some (AB true b e (rows.flatten++qs))) (hd:E.lookup d=some p) (hp:Pr.le p (is (.slice (some ⟨b,0,none⟩) rows.length cap)))
  (hl:∀r∈rows,r.length=sz) (hc:rows.length≤cap) (hm:cap≤maxLen) (hq:qs.length=(cap-rows.length)*sz)
  {a:Act} {w:World} (h:St n E (Hp M0 w0 S rs) a w):St n ((d,Ag (.slice (some ⟨b,0,none⟩) rows.length cap) (slice sz rows))::E) (Hp M0 w0 S (rs.set j (Aq e sz (.slice (some ⟨b,0,none⟩) rows.length cap)))) a w:=by
 obtain ⟨M,h1,h2,h3,h4⟩:=h
 obtain ⟨M',h5,h6,h7⟩:=At.frz h4 hj hl hc hm hq
 refine ⟨M',h1,h2,fun s q hs=> ?_,h6⟩
 simp only [List.lookup] at hs
 split at hs
 ·
  rename_i e1
  have:s=d:=by simpa using e1
  subst this
  simp only [Option.some.injEq] at hs
  subst hs
  have h8:=hp _ _ _ (h3 _ _ hd)
  exact ⟨h8,by rw [show a.tmps.getD s undef=_ from h8];exact h7⟩
 · exact q.st _ _ _ _ _ h5 (h3 s q hs)
theorem Tr.U_ {Q:Exit→Act→World→Prop} {c:Code} {b cap sz:Nat} {e:TypeId} (rows:List (List Pr)) {qs:List Pr} (j d:Nat) {p:Pr} (hj:rs[j]? =some (AB true b e (rows.flatten++qs))) (hd:E.lookup d=some p) (hp:Pr.le p (is (.slice (some ⟨b,0,none⟩) rows.length cap)))
  (hl:∀r∈rows,r.length=sz) (hc:rows.length≤cap) (hm:cap≤maxLen) (hq:qs.length=(cap-rows.length)*sz)
  (k:Tr L n ((d,Ag (.slice (some ⟨b,0,none⟩) rows.length cap) (slice sz rows))::E) (Hp M0 w0 S (rs.set j (Aq e sz (.slice (some ⟨b,0,none⟩) rows.length cap)))) c Q):Tr L n E (Hp M0 w0 S rs) c Q:=
 Tr.conv (fun _ _ hs=>hs.U_ j d hj hd hp hl hc hm hq) k
theorem Fin.U_ {Q:Exit→Act→World→Prop} {x:Exit} {b cap sz:Nat} {e:TypeId} (rows:List (List Pr)) {qs:List Pr} (j d:Nat) {p:Pr} (hj:rs[j]? =some (AB true b e (rows.flatten++qs))) (hd:E.lookup d=some p) (hp:Pr.le p (is (.slice (some ⟨b,0,none⟩) rows.length cap)))
  (hl:∀r∈rows,r.length=sz) (hc:rows.length≤cap) (hm:cap≤maxLen) (hq:qs.length=(cap-rows.length)*sz)
  (k:Fin n ((d,Ag (.slice (some ⟨b,0,none⟩) rows.length cap) (slice sz rows))::E) (Hp M0 w0 S (rs.set j (Aq e sz (.slice (some ⟨b,0,none⟩) rows.length cap)))) Q x):Fin n E (Hp M0 w0 S rs) Q x:=
 Fin.conv (fun _ _ hs=>hs.U_ j d hj hd hp hl hc hm hq) k
end
section
variable {P:Program} {L:Lg P} {n:Fm} {fz:Nat} {E:Env} {M0:Av} {w0:World} {S:Nat→Prop} {rs:List Ao} {o:Oper} {g:Func} {M1:Av} {w1:World}
theorem Ta {β:Type} {f:β→List Pr} {l:List β} {qs:List Pr} (hf:∀x,(f x).length=1) {i:Int} {x:β} {p:Pr} (h:l[i.toNat]? =some x) (hp:f x=[p]):((l.map f).flatten++qs)[0+i.toNat*1]? =some p:=by
 have hl:∀r∈l.map f,r.length=1:=Bg hf
 have hi:i.toNat<l.length:=by rcases Nat.lt_or_ge i.toNat l.length with h'|h';exact h';rw [List.getElem?_eq_none h'] at h;cases h
 have hfl:=CZ hl
 rw [List.length_map] at hfl
 rw [Nat.zero_add,List.getElem?_append_left (by rw [hfl];omega),show i.toNat*1=i.toNat*1+0 by omega,H6 hl (by rw [List.getElem?_map,h];rfl) (by omega),hp];rfl
def EO (T:TypeId) (ps:List Pr) (v:Value):Ao:=match v with| .pointer (some a)=>AB true a.block T ps|_=>Bp
theorem Ca {d j:Nat} {T:TypeId} {zs:List Value} (hg:o.guard=none) (hd:o.dst=some d) (hn:d<n) (ho:o.op= .alloc T) (hz:BL P T=some zs) (h1':zs.all (·.oneCell')=true):
  DI P M0 w0 S n j (SR.c Bp) ⟨d,EO T (zs.map is)⟩ o E (Cp.ex fun b=>ptr b 0):=by
 refine ⟨hg,fun M w a rs NL he hI hj=> ?_⟩
 have h1:∀c∈zs,c.oneCell'=true:=fun c hc=>List.all_eq_true.1 h1' c hc
 obtain ⟨z,FE,Gf⟩:=S8 hz w
 have hrun:(execOp a.eval o).run P w= .ok (.value (.pointer (some ⟨w.heap.size,0,none⟩))) (w.alloc (.cells zs.toArray T)):=by simp [execOp,ho,Instr.alloc,FE,newVar,newRow,←Gf]
 rw [hrun]
 have hb:Below w.heap.size w (w.alloc (.cells zs.toArray T)):=(Below.refl _ _).alloc (Nat.le_refl _) _
 have h2:=Ext.below (M:=M) hb
 have Ej:Ext M w (fun b o=>M b o∨b=w.heap.size) (w.alloc (.cells zs.toArray T)):=by
  refine ⟨h2.size,fun a v hc hm=>⟨fun hx=> ?_,(h2.keep a v hc hm).2⟩,fun b o ho hp hm=>⟨fun hx=> ?_,(h2.obj b o ho hp hm).2⟩⟩
  ·
   rcases hx with hx|hx
   · exact hm hx
   · have:=EG hc;omega
  ·
   rcases hx with hx|hx
   · exact hm hx
   · subst hx;simp at ho
 have hs1:(w.alloc (.cells zs.toArray T)).heap.size=w.heap.size+1:=by simp
 have hat:(SR.at_ (a.put o.dst (.pointer (some ⟨w.heap.size,0,none⟩))) ⟨d,EO T (zs.map is)⟩)=AB true w.heap.size T (zs.map is):=by unfold SR.at_ Slot.val;dsimp only;rw [hd,Ba (by rw [NL];exact hn)];rfl
 refine ⟨fun b o=>M b o∨b=w.heap.size,⟨_,rfl⟩,Ej,?_⟩
 rw [hat]
 refine hI.replace hj Ej hb.os hb.tape hb.output (fun k hk _=>hb.block k hk) rfl (fun b o hm _=> .inl hm) (fun b o hx=> ?_) ?_ rfl (fun b hbk=> ?_)
 ·
  rcases hx with hx|hx
  · have:=hI.bd _ _ hx;omega
  · omega
 · refine ⟨fun o=> .inr rfl,zs,heap_alloc_new w _,J7 _ _ _,h1⟩
 ·
  have Ee:some w.heap.size=some b:=hbk
  injection Ee with e1
  subst e1
  exact ⟨by rw [hs1];omega,.inr (Nat.le_refl _)⟩
theorem DC {t:TypeId} {s:Tmp} {y:Operand} {j m:Nat} {T:TypeId} {ps qs:List Pr} (hg:o.guard=none) (hd:o.dst=none) (ho:o.op= .store t (.tmp s) y) (hx:E.lookup s=some (Cp.ex fun b=>ptr b 0)) (hy:VL E y (DR qs))
  (hz:Ay P t=some m) (hm:qs.length=m) (hl:ps.length=m):DI P M0 w0 S n j ⟨s,EO T ps⟩ ⟨s,EO T qs⟩ o E any:=by
 refine ⟨hg,fun M w a rs hsz he hI hj=> ?_⟩
 have hxv:VL E (.tmp s) (Cp.ex fun b=>ptr b 0):=⟨_,hx,Pr.le_refl _⟩
 obtain ⟨b,h1'⟩:=hxv.ev he (show (Operand.tmp s)∈o.op.operands.toList by simp [ho,Op.operands])
 have h1:a.eval (.tmp s)= .pointer (some ⟨b,0,none⟩):=h1'
 have h1t:a.tmps.getD s undef= .pointer (some ⟨b,0,none⟩):=h1
 have hj':rs[j]? =some (AB true b T ps):=by
  rw [hj];show some (EO T ps (a.tmps.getD s undef))=_;rw [h1t];rfl
 obtain ⟨h2,h3⟩:=hy.ev he (show y∈o.op.operands.toList by simp [ho,Op.operands])
 obtain ⟨⟨_,cs,h4,h5,h6⟩,_⟩:=hI.hold _ (List.mem_of_getElem? hj')
 have h5l:=h5.length
 have lu:=h2.length
 have hcells:(a.eval y).cells.size=m:=by rw [←hm,←lu];simp
 have hrun:(storeCells ⟨b,0,none⟩ (a.eval y).cells.toList 0).run P w= .ok () (w.setRow b (cs.take 0++(a.eval y).cells.toList++cs.drop (0+m)).toArray):=by
  have:=run_storeCells_at (P:=P) b 0 T (a.eval y).cells.toList 0 cs.toArray w h4 (by simp;omega) h3
  simpa [hcells] using this
 have uN:cs.drop (0+m)=[]:=List.drop_eq_nil_of_le (by omega)
 rw [uN,List.take_zero,List.nil_append,List.append_nil] at hrun
 have E7:(execOp a.eval o).run P w= .ok .skip (w.setRow b (a.eval y).cells.toList.toArray):=by
  simp only [execOp,ho,h1,Instr.storeAt,Instr.sureAddr,storeVar]
  simp [Ce hz,hcells,hrun]
 rw [E7]
 obtain ⟨h7,h8⟩:=At.write (qs:=qs) (cs:=(a.eval y).cells.toList) hI hj' h2 h3
 refine ⟨M,trivial,h8,?_⟩
 have hat:(SR.at_ (a.put o.dst undef) ⟨s,EO T qs⟩)=AB true b T qs:=by
  rw [hd];show EO T qs (a.tmps.getD s undef)=_;rw [h1t];rfl
 rw [hat];exact h7
theorem Fin.MB {Q:Exit→Act→World→Prop} {x:Exit} (s j:Nat) {v:Value} {f:Value→Ao} (g:Nat→Ao) (hs:E.lookup s=some (Ag v (Cp.ex fun b=>ptr b 0))) (hi:rs[j]? =some (f v)) (hf:∀b,f (.pointer (some ⟨b,0,none⟩))=g b)
  (k:∀b,Fin n ((s,ptr b 0)::E) (Hp M0 w0 S (rs.set j (g b))) Q x):Fin n E (Hp M0 w0 S rs) Q x:=by
 intro a w hst
 obtain ⟨M,h1,h2,he,h4⟩:=hst
 obtain ⟨h5,b,h6⟩:=he s _ hs
 have hv:v= .pointer (some ⟨b,0,none⟩):=by rw [←h5];exact h6
 have hj:rs.set j (g b)=rs:=by
  have hjl:j<rs.length:=by rcases Nat.lt_or_ge j rs.length with h|h;exact h;rw [List.getElem?_eq_none h] at hi;cases hi
  rw [←hf b,←hv]
  rw [List.getElem?_eq_getElem hjl] at hi
  simp at hi
  rw [←hi,List.set_getElem_self]
 refine k b a w ⟨M,h1,h2,?_,by rw [hj];exact h4⟩
 intro t q hq
 simp only [List.lookup] at hq
 by_cases ht:t=s
 · subst ht;simp at hq;subst hq;exact h6
 · rw [show (t==s)=false by simpa using ht] at hq;exact he t q hq
theorem R4 {β:Type} {f:β→List Pr} {sz:Nat} (hf:∀x,(f x).length=sz) {z:List Pr} (hz:z.length=sz) {l:List β} {qs:List Pr} {i m:Nat} (hm:m=l.length-((i:Nat):Int).toNat) (h:i≤l.length):
  ((l.map f).flatten++qs).take (((i:Nat):Int).toNat*sz)++(List.replicate m z).flatten++((l.map f).flatten++qs).drop (((i:Nat):Int).toNat*sz+m*sz)=((l.take i).map f).flatten++(List.replicate (l.length-i) z).flatten++qs:=by
 rw [Int.toNat_natCast] at hm ⊢;subst hm
 have mR:∀r∈(l.take i).map f,r.length=sz:=Bg hf
 have e1:i*sz+(l.length-i)*sz=((l.map f).flatten).length:=by rw [CZ (Bg hf),List.length_map,←Nat.add_mul];congr 1;omega
 have e2:(l.map f).flatten=((l.take i).map f).flatten++((l.drop i).map f).flatten:=by rw [←List.flatten_append,←List.map_append,List.take_append_drop]
 have e3:(((l.take i).map f).flatten).length=i*sz:=by rw [CZ mR,List.length_map,List.length_take];congr 1;omega
 rw [e1,List.drop_left]
 congr 2
 rw [e2,List.append_assoc,←e3,List.take_left]
end
section
variable {P:Program} {L:Lg P} {n:Fm} {fz:Nat} {E:Env} {M0:Av} {w0:World} {S:Nat→Prop} {rs:List Ao} {o:Oper}
def BX (e:TypeId) (sz:Nat) (rows:List (List Pr)) (v:Value):Ao where
 blk:=match v with| .slice (some a) _ _=>some a.block|_=>none
 new:=true
 h M w:=(rows=[]∧v= .slice none 0 0)∨(HE e sz rows v).h M w
 st M w M' w' he hk h:=h.imp id fun h=>(HE e sz rows v).st M w M' w' he hk h
theorem Tr.KS {Q:Exit→Act→World→Prop} {c:Code} (e:TypeId) (sz:Nat) (k:Tr L n E (Hp M0 w0 S (BX e sz [] (.slice none 0 0)::rs)) c Q):Tr L n E (Hp M0 w0 S rs) c Q:=
 Tr.conv (fun _ _ ⟨M,h1,h2,h3,h4⟩=>⟨M,h1,h2,h3,At.Gi h4 (r:=BX e sz [] (.slice none 0 0)) rfl (Or.inl ⟨rfl,rfl⟩)⟩) k
theorem Wy {M:Av} {w:World} {t ty e:TypeId} {sz bytes:Nat} {zs:List Value} {rows rows':List (List Pr)} {v u:Value} {j:Nat} (ht:P.underlying t=some (.slice e)) (hz:Ay P e=some sz) (hby:Bk P e=some bytes) (EM:BL P e=some zs) (hzl:zs.length=sz) (hone:zs.all (·.oneCell')=true) (hsz:0<sz)
  (h:At M0 w0 S rs M w) (hj:rs[j]? =some (BX e sz rows v)) (hl:∀r∈rows,r.length=sz) (hu:(slice sz rows').h M w u) (hpos:0<rows'.length) (Fv:rows.length+rows'.length≤maxLen) (hfit:(rows.length+rows'.length)*bytes≤140737488355328):
  ∃v' w' M',(Builtin.append_ #[t,t] ty #[v,u]).run P w= .ok v' w'∧(lens (rows.length+rows'.length)).h M' w' v'∧Ext M w M' w'∧At M0 w0 S (rs.set j (BX e sz (rows++rows') v')) M' w':=by
 have hjl:j<rs.length:=by rcases Nat.lt_or_ge j rs.length with h|h;exact h;rw [List.getElem?_eq_none h] at hj;cases hj
 rcases (h.hold _ (List.mem_of_getElem? hj)).1 with ⟨rfl,rfl⟩|pM
 ·
  have h1:=h.Cl (r':=Bp) hj rfl rfl trivial
  have hj1:(rs.set j Bp)[j]? =some Bp:=List.getElem?_set_self hjl
  obtain ⟨v',w',M',hrun,h2,h3,h4⟩:=i_ (ty:=ty) ht hz hby EM hzl hone hsz h1 hj1 hu hpos (by simpa using Fv) (by simpa using hfit)
  rw [List.set_set] at h4
  have h5:=h4.Cl (r':=BX e sz ([]++rows') v') (List.getElem?_set_self hjl) rfl rfl (.inr (h4.hold _ (List.mem_of_getElem? (List.getElem?_set_self hjl))).1)
  rw [List.set_set] at h5
  exact ⟨v',w',M',hrun,by simpa using h2,h3,h5⟩
 ·
  obtain ⟨b,cap,spare,rfl,hnc,hcm,hsp,jG⟩:=pM
  have hC:=h.Cl (r':=AB true b e (rows.flatten++spare.map is)) hj rfl rfl jG
  have hjC:(rs.set j (AB true b e (rows.flatten++spare.map is)))[j]? =some (AB true b e (rows.flatten++spare.map is)):=List.getElem?_set_self hjl
  obtain ⟨⟨hMb,cs,mS,hcs,bI⟩,lq⟩:=hC.hold _ (List.mem_of_getElem? hjC)
  have hfl:=CZ hl
  have Zu:=hcs.length
  rw [List.length_append,hfl,List.length_map,hsp,←Nat.add_mul,show rows.length+(cap-rows.length)=cap by omega] at Zu
  unfold Ay at hz
  unfold Bk at hby
  unfold BL at EM
  cases hi:P.info? e with
  |none=>rw [hi] at hz;cases hz
  |some i=>
   rw [hi] at hz hby EM
   simp only [Option.map_some,Option.some.injEq,Option.map_eq_some_iff] at hz hby EM
   obtain ⟨z,Wl,EM⟩:=EM
   have Zs:z.cells.size=sz:=by rw [←hzl,←EM];simp
   obtain ⟨A',c',rfl,nX,Ut,gN,GN⟩:=hu
   have Rb:(slice sz rows').h M w (.slice A' rows'.length c'):=⟨A',c',rfl,nX,Ut,gN,GN⟩
   obtain ⟨Qe,rfl⟩:∃Qe,A'=some Qe:=by
    obtain ⟨_,b,hb,_⟩:=GN 0 _ (List.getElem?_eq_getElem hpos)
    exact ⟨b,hb⟩
   obtain ⟨news,Qs,hcell⟩:=FW hsz Rb
   have VA:=Qs.1
   have hnews:=Qs.hl hsz
   have hT:HL M w rows.flatten (cs.take (rows.length*sz)):=by
    have:=hcs.take (rows.length*sz)
    rwa [←hfl,List.take_left,hfl] at this
   have hne:(.slice (some ⟨b,0,none⟩) (rows++rows').length cap:Value)= .slice (some ⟨b,0,none⟩) (rows.length+rows'.length) cap:=by rw [List.length_append]
   by_cases hroom:rows.length+rows'.length≤cap
   ·
    have hle:(rows.length+rows'.length)*sz≤cap*sz:=Nat.mul_le_mul_right sz hroom
    rw [Nat.add_mul] at hle
    have hrun:=run_append_room (P:=P) (w:=w) t ty e i ht hi b rows.length cap cs.toArray mS Qe rows'.length c' news (by rw [hz];exact VA) (fun k u hk=>(hcell k u hk).1) Qs.2.1 hroom (by rw [hz,VA];simp;omega)
    rw [hz,VA] at hrun
    have hD:HL M w ((spare.drop (rows'.length*sz)).map is) (cs.drop (rows.length*sz+rows'.length*sz)):=by
     have:=hcs.drop (rows.length*sz+rows'.length*sz)
     have e1:(rows.flatten++spare.map is).drop (rows.length*sz+rows'.length*sz)=(spare.drop (rows'.length*sz)).map is:=by rw [←hfl,←List.drop_drop,List.drop_left,List.map_drop]
     rwa [e1] at this
    obtain ⟨hW,hX⟩:=At.write (qs:=rows.flatten++rows'.flatten++(spare.drop (rows'.length*sz)).map is) (cs:=cs.take (rows.length*sz)++news++cs.drop (rows.length*sz+rows'.length*sz)) hC hjC ((hT.app hnews).app hD) (fun c hc=>by
     simp only [List.mem_append] at hc
     rcases hc with (hc|hc)|hc
     · exact bI c (List.mem_of_mem_take hc)
     · exact Qs.2.1 c hc
     · exact bI c (List.mem_of_mem_drop hc))
    rw [List.set_set] at hW
    refine ⟨_,_,M,hrun,⟨_,_,rfl⟩,hX,?_⟩
    have hW2 := hW.Cl (r' := BX e sz (rows ++ rows') (.slice (some ⟨b, 0, none⟩) (rows.length + rows'.length) cap)) (List.getElem?_set_self hjl) rfl rfl (.inr ⟨b, cap, spare.drop (rows'.length * sz), hne.symm, by rw [List.length_append]; exact hroom, hcm, by
     rw [List.length_drop,hsp,List.length_append,←Nat.sub_mul];congr 1;omega,by
     rw [List.flatten_append];exact (hW.hold _ (List.mem_of_getElem? (List.getElem?_set_self hjl))).1⟩)
    rw [List.set_set] at hW2
    exact hW2
   ·
    have hg:cap<rows.length+rows'.length:=by omega
    have holds:∀k u,(cs.take (rows.length*sz))[k]? =some u→w.cell? ((⟨b,0,none⟩:Addr).add k)=some u:=by
     intro k u hk
     have hk2:cs[k]? =some u:=by
      rw [List.getElem?_take] at hk
      split at hk
      · exact hk
      · cases hk
     rw [Fx]
     simp [World.cell?,mS,hk2]
    have hto:(cs.take (rows.length*sz)).length=rows.length*sz:=by rw [List.length_take,Zu];exact Nat.min_eq_left (Nat.mul_le_mul_right sz hnc)
    have hrun:=run_append_grow (P:=P) (w:=w) t ty e i z ht hi Wl ⟨b,0,none⟩ rows.length cap (cs.take (rows.length*sz)) (by rw [hz];exact hto) holds Qe rows'.length c' news (by rw [hz];exact VA) (fun k u hk=>(hcell k u hk).1) hg (by unfold maxLen at Fv;omega) (by rw [hby];exact growslice_fits hg hfit)
    generalize hcap:grownCap w (rows.length+rows'.length) cap e=cap' at hrun
    have hge:rows.length+rows'.length≤cap':=by rw [←hcap];exact grownCap_ge _ _ _ _
    have hle:cap'≤maxLen:=by rw [←hcap];exact grownCap_le_maxLen _ _ _ _ Fv
    generalize P8:Builtin.zeroCells z.cells (cap'-(rows.length+rows'.length))=zc at hrun
    have hzs:zc.size=(cap'-(rows.length+rows'.length))*sz:=by rw [←P8,size_zeroCells,Zs]
    have hzo:∀c∈zc.toList,c.oneCell'=true:=by rw [←P8];exact Fp EM hone
    generalize pN:((cs.take (rows.length*sz)).toArray++news.toArray++zc)=arr at hrun
    have HK:arr.toList=cs.take (rows.length*sz)++news++zc.toList:=by rw [←pN];simp
    have hb:Below w.heap.size w (w.drew.alloc (.cells arr e)):=((Below.refl _ _).drew).alloc (Nat.le_refl _) _
    have h2:=Ext.below (M:=M) hb
    have Ej:Ext M w (fun b o=>M b o∨b=w.heap.size) (w.drew.alloc (.cells arr e)):=by
     refine ⟨h2.size,fun a v hc hm=>⟨fun hx=> ?_,(h2.keep a v hc hm).2⟩,fun b o ho hp hm=>⟨fun hx=> ?_,(h2.obj b o ho hp hm).2⟩⟩
     ·
      rcases hx with hx|hx
      · exact hm hx
      · have:=EG hc;omega
     ·
      rcases hx with hx|hx
      · exact hm hx
      · subst hx;simp at ho
    have hs1:(w.drew.alloc (.cells arr e)).heap.size=w.heap.size+1:=by simp
    refine ⟨_,_,fun b o=>M b o∨b=w.heap.size,hrun,⟨_,_,rfl⟩,Ej,?_⟩
    refine h.replace hj Ej hb.os hb.tape hb.output (fun k hk _=>hb.block k hk) rfl (fun b o hm _=> .inl hm) (fun b o hx=> ?_) ?_ rfl (fun b hbk=> ?_)
    ·
     rcases hx with hx|hx
     · have:=h.bd _ _ hx;omega
     · omega
    ·
     refine .inr ⟨w.heap.size,cap',zc.toList,by rw [List.length_append],by rw [List.length_append];exact hge,hle,by rw [List.length_append];simpa using hzs,fun o=> .inr rfl,arr.toList,?_,?_,?_⟩
     ·
      have hh:(w.drew.alloc (.cells arr e)).heap[w.heap.size]? =some (.cells arr e (0,0)):=heap_alloc_new w.drew _
      rw [hh]
     · rw [HK,List.flatten_append];exact ((hT.st Ej).app ((Qs.st Ej).hl hsz)).app (J7 _ _ _)
     ·
      intro c hc
      rw [HK] at hc
      simp only [List.mem_append] at hc
      rcases hc with (hc|hc)|hc
      · exact bI c (List.mem_of_mem_take hc)
      · exact Qs.2.1 c hc
      · exact hzo c hc
    ·
     have Ee:some w.heap.size=some b:=hbk
     injection Ee with e1
     subst e1
     exact ⟨by rw [hs1];omega,.inr (Nat.le_refl _)⟩
theorem Fb {t e:TypeId} {x y:Operand} {sz bytes d:Nat} {zs:List Value} {rows rows':List (List Pr)} {v:Value} {p:Pr} {j:Nat} (hg:o.guard=none) (hd:o.dst=some d) (hn:d<n) (ho:o.op= .call { callee:= .builtin .append,args:= #[x,y],argTypes:= #[t,t] })
  (ht:P.underlying t=some (.slice e)) (hz:Ay P e=some sz) (hby:Bk P e=some bytes) (EM:BL P e=some zs) (hzl:zs.length=sz) (hone:zs.all (·.oneCell')=true) (hsz:0<sz)
  (hx:VL E x (Ag v p)) (hy:VL E y (slice sz rows')) (hl:∀r∈rows,r.length=sz) (hpos:0<rows'.length) (Fv:rows.length+rows'.length≤maxLen) (hfit:(rows.length+rows'.length)*bytes≤140737488355328):DI P M0 w0 S n j (SR.c (BX e sz rows v)) ⟨d,BX e sz (rows++rows')⟩ o E (lens (rows.length+rows'.length)):=by
 refine ⟨hg,fun M w a rs NL he hI hj=> ?_⟩
 have h1:a.eval x=v:=(hx.ev he (by simp [ho,Op.operands,Call.operands])).1
 have h2:=hy.ev he (by simp [ho,Op.operands,Call.operands])
 obtain ⟨v',w',M',hrun,h3,h4,h5⟩:=Wy (ty:=o.type) ht hz hby EM hzl hone hsz hI hj hl h2 hpos Fv hfit
 have E7:(execOp a.eval o).run P w= .ok (.value v') w':=by simp [execOp,ho,resolve,invoke,builtin,h1,hrun]
 rw [E7]
 refine ⟨M',h3,h4,?_⟩
 have:(SR.at_ (a.put o.dst v') ⟨d,BX e sz (rows++rows')⟩)=BX e sz (rows++rows') v':=by unfold SR.at_ Slot.val;dsimp only;rw [hd,Ba (by rw [NL];exact hn)]
 rw [this];exact h5
theorem At.pO {M:Av} {w:World} {sz:Nat} {e:TypeId} {rows:List (List Pr)} {v:Value} {j:Nat} (h:At M0 w0 S rs M w) (hj:rs[j]? =some (BX e sz rows v)) (hl:∀r∈rows,r.length=sz):
  ∃M',Ext M w M' w∧At M0 w0 S (rs.set j (Aq e sz v)) M' w∧(slice sz rows).h M' w v:=by
 have hjl:j<rs.length:=by rcases Nat.lt_or_ge j rs.length with h|h;exact h;rw [List.getElem?_eq_none h] at hj;cases hj
 rcases (h.hold _ (List.mem_of_getElem? hj)).1 with ⟨rfl,rfl⟩|pM
 · exact ⟨M,Ext.refl _ _,h.Cl hj rfl rfl (by intro a n c hv;cases hv),AF sz M w _ rfl⟩
 ·
  obtain ⟨b,cap,spare,rfl,hnc,hcm,hsp,jG⟩:=pM
  have hC:=h.Cl (r':=AB true b e (rows.flatten++spare.map is)) hj rfl rfl jG
  obtain ⟨M',h1,h2,h3⟩:=At.frz hC (List.getElem?_set_self hjl) hl hnc hcm (by rw [List.length_map];exact hsp)
  rw [List.set_set] at h2
  exact ⟨M',h1,h2,h3⟩
end
section
variable {P:Program} {L:Lg P} {n:Fm} {fz:Nat} {E:Env} {M0:Av} {w0:World} {S:Nat→Prop} {rs:List Ao} {o:Oper} {ops:Array Oper} {r:List Oper}
def uO (P:Program) (f:FuncId) (args:List Pr) (res:Pr) (r:Ao) (r':Ao) (r2:Ao):Prop:=Entry P f∧∀M0 w0 S rs M w vs,At M0 w0 S (r::r2::rs) M w→HL M w args vs→
 Calls P f vs.toArray w fun e w'=>∃v M',e= .returned v∧res.h M' w' v∧Ext M w M' w'∧At M0 w0 S (r'::r2::rs) M' w'
theorem uO.of {f : FuncId} {g : Func} {c : Code} {ps : List Pr} {res : Pr} {R R' R2 : Ao} (hf : P.funcs[f]? = some g) (hb : g.body = some c) (hname : (g.name == "runtime.NumGoroutine") = false) (hlen : ps.length ≤ g.ntmps)
  (h:∀M0 w0 S rs M1 w1,Tr (Uj P) g.ntmps (KL 0 ps) (Hp M0 w0 S (R::Aj M1 w1::R2::rs)) c (bodyPost P g (OK M0 w0 S (R2::rs) M1 w1 res (fun _=>R')))):uO P f ps res R R' R2:=by
 refine ⟨⟨g,hf,hname,by rw [hb];rfl⟩,fun M0 w0 S rs M w vs hI hv=> ?_⟩
 refine calls_of_wp hf hb (h M0 w0 S rs M w _ _ ⟨M,?_,rfl,FT hv,?_⟩)
 ·
  have:=hv.length
  simp [this];omega
 · exact At.perm (List.Perm.swap _ _ _) (At.Gi hI (r:=Aj M w) rfl (Ext.refl _ _))
end
abbrev F5 (k:IntKind):Pr:=Cp.ex fun i:Int=>is (.int k i)
theorem B6 (k:IntKind) (i:Int):Pr.le (is (.int k i)) (F5 k):=fun _ _ _ h=>⟨i,h⟩
section
variable {P:Program} {L:Lg P} {I:CU} {o:Oper} {E:Env}
theorem jH {op:BinOp} {t u:TypeId} {x y:Operand} {k:IntKind} (hop:(op== .xor||op== .or)=true) (ho:o.op= .binOp op t x y u) (hx:VL E x (F5 k)) (hy:VL E y (F5 k)):Aa P I o E (F5 k):=
 Aa.same fun M w a he _=>by
  obtain ⟨m,h1⟩:=hx.ev he (by simp [ho,Op.operands])
  obtain ⟨n,h2⟩:=hy.ev he (by simp [ho,Op.operands])
  have h1:a.eval x= .int k m:=h1
  have h2:a.eval y= .int k n:=h2
  cases op<;>simp at hop<;>exact ⟨_,by simp [execOp,ho,h1,h2,eqGuard,binOp,Op.intBits];rfl,_,rfl⟩
end
theorem Qt {β:Type} {f:β→List Pr} {l:List β} {qs:List Pr} {sz:Nat} (hf:∀x,(f x).length=sz) {i:Int} (h:i.toNat<l.length):((((l.map f).flatten++qs).drop (0+i.toNat*sz)).take sz)=f (l[i.toNat]'h):=by
 rw [Nat.zero_add];exact bF hf (List.getElem?_eq_getElem h)
theorem H7 {β:Type} {f:β→List Pr} {sz:Nat} (hf:∀x,(f x).length=sz) {l:List β} {qs:List Pr} {i:Int} {x:β} (h:i.toNat<l.length):((l.map f).flatten++qs).take (0+i.toNat*sz)++f x++((l.map f).flatten++qs).drop (0+i.toNat*sz+sz)=((l.set i.toNat x).map f).flatten++qs:=by
 rw [Nat.zero_add];exact MJ hf h
theorem Og {β:Type} {l:List β} {i j:Int} (hi:i.toNat<l.length) (hj:j.toNat<l.length):((l.set i.toNat (l[j.toNat]'hj)).set j.toNat (l[i.toNat]'hi)).Perm l:=List.set_set_perm hi hj
section
variable {P:Program} {L:Lg P} {n:Fm} {fz:Nat} {E:Env} {M0:Av} {w0:World} {S:Nat→Prop} {rs:List Ao} {o:Oper} {β:Type} {b:Nat} {e:TypeId} {f:β→List Pr} {qs:List Pr} {Φ:List β→Prop}
def FA (b:Nat) (e:TypeId) (f:β→List Pr) (Φ:List β→Prop) (qs:List Pr):Ao where
 blk:=some b
 new:=true
 h M w:=∃st:List β,Φ st∧(AB true b e ((st.map f).flatten++qs)).h M w
 st M w M' w' he hk h:=let ⟨st,h1,h2⟩:=h;⟨st,h1,(AB true b e ((st.map f).flatten++qs)).st M w M' w' he hk h2⟩
theorem St.LQ (j:Nat) (hj:rs[j]? =some (FA b e f Φ qs)) {a:Act} {w:World} (h:St n E (Hp M0 w0 S rs) a w):
  ∃st:List β,Φ st∧St n E (Hp M0 w0 S (rs.set j (AB true b e ((st.map f).flatten++qs)))) a w:=by
 obtain ⟨M,h1,h2,h3,h4⟩:=h
 have h4:At M0 w0 S rs M w:=h4
 obtain ⟨st,hp,h8⟩:=(h4.hold _ (List.mem_of_getElem? hj)).1
 exact ⟨st,hp,M,h1,h2,h3,h4.Cl hj rfl rfl h8⟩
theorem Tr.LQ {Q:Exit→Act→World→Prop} {c:Code} (j:Nat) (hj:rs[j]? =some (FA b e f Φ qs))
  (k:∀st:List β,Φ st→Tr L n E (Hp M0 w0 S (rs.set j (AB true b e ((st.map f).flatten++qs)))) c Q):Tr L n E (Hp M0 w0 S rs) c Q:=
 fun a w hs=>let ⟨st,h1,h2⟩:=hs.LQ j hj;k st h1 a w h2
theorem Fin.LQ {Q:Exit→Act→World→Prop} {x:Exit} (j:Nat) (hj:rs[j]? =some (FA b e f Φ qs))
  (k:∀st:List β,Φ st→Fin n E (Hp M0 w0 S (rs.set j (AB true b e ((st.map f).flatten++qs)))) Q x):Fin n E (Hp M0 w0 S rs) Q x:=
 fun a w hs=>let ⟨st,h1,h2⟩:=hs.LQ j hj;k st h1 a w h2
theorem TO.LQ {Q:Exit→Act→World→Prop} {ops:Array Oper} {r:List Oper} (j:Nat) (hj:rs[j]? =some (FA b e f Φ qs))
  (k:∀st:List β,Φ st→TO P n ops r E (Hp M0 w0 S (rs.set j (AB true b e ((st.map f).flatten++qs)))) Q):TO P n ops r E (Hp M0 w0 S rs) Q:=
 fun m hl a w hs=>let ⟨st,h1,h2⟩:=hs.LQ j hj;k st h1 m hl a w h2
theorem St.H8 {st:List β} (j:Nat) (hj:rs[j]? =some (AB true b e ((st.map f).flatten++qs))) (hp:Φ st) {a:Act} {w:World} (h:St n E (Hp M0 w0 S rs) a w):St n E (Hp M0 w0 S (rs.set j (FA b e f Φ qs))) a w:=by
 obtain ⟨M,h1,h2,h3,h4⟩:=h
 have h4:At M0 w0 S rs M w:=h4
 exact ⟨M,h1,h2,h3,h4.Cl hj rfl rfl ⟨st,hp,(h4.hold _ (List.mem_of_getElem? hj)).1⟩⟩
theorem Tr.H8 {Q:Exit→Act→World→Prop} {c:Code} {st:List β} (Φ:List β→Prop) (j:Nat) (hj:rs[j]? =some (AB true b e ((st.map f).flatten++qs))) (hp:Φ st)
  (k:Tr L n E (Hp M0 w0 S (rs.set j (FA b e f Φ qs))) c Q):Tr L n E (Hp M0 w0 S rs) c Q:=Tr.conv (fun _ _ hs=>hs.H8 j hj hp) k
theorem Fin.H8 {Q:Exit→Act→World→Prop} {x:Exit} {st:List β} (Φ:List β→Prop) (j:Nat) (hj:rs[j]? =some (AB true b e ((st.map f).flatten++qs))) (hp:Φ st)
  (k:Fin n E (Hp M0 w0 S (rs.set j (FA b e f Φ qs))) Q x):Fin n E (Hp M0 w0 S rs) Q x:=Fin.conv (fun _ _ hs=>hs.H8 j hj hp) k
instance (priority:=300) uP (b:Bool) (p:Prop) [h:D_ b false p]:D_ (!b) true p:=⟨fun e=>h.Eo (by simpa using e)⟩
instance (priority:=300) uQ (b:Bool) (p:Prop) [h:D_ b true p]:D_ (!b) false p:=⟨fun e=>h.Eo (by simpa using e)⟩
end
end Cp
namespace Cp
open Go.Sort
section
variable {β:Type} [Inhabited β] {c:β×β→Int} {st:List β} {a b i j:Int}
def ltc (c:β×β→Int) (x y:β):Bool:=decide (c (x,y)<0)
theorem gx (h:i.toNat<st.length):st.toArray[i.toNat]! =st[i.toNat]:=by simp [h]
theorem sw (hi:i.toNat<st.length) (hj:j.toNat<st.length):((st.set i.toNat (st[j.toNat]'hj)).set j.toNat (st[i.toNat]'hi)).toArray=swp st.toArray i.toNat j.toNat:=by
 unfold swp
 rw [gx hi,gx hj]
 simp [Array.setIfInBounds_def,hi,hj]
omit [Inhabited β] in
theorem uR {x y:β} (h:¬c (x,y)<0):ltc c x y=false:=decide_eq_false h
variable {hi F r:Int}
variable {lt:β→β→Bool} {a0 b0 m n:Nat} {l s s':Array β}
structure PS (lt:β→β→Bool) (a0 b0 a b:Nat) (l s:Array β):Prop where
 ha:a0≤a
 hab:a≤b
 hb:b≤b0
 hp:PermIn a0 b0 l s
 below:Below lt a b s
 out:∀i j,a0≤i→i<j→j<b0→(i<a∨b≤j)→lt s[j]! s[i]! =false
theorem PS.perm (h:PS lt a0 b0 m n l s) (hs:b0≤l.size) (hq:PermIn m n s s'):PS lt a0 b0 m n l s':=by
 have hsz:s.size=l.size:=h.hp.1
 have l_:n≤s.size:=by have:=h.hb;omega
 refine ⟨h.ha,h.hab,h.hb,permIn_trans _ _ _ _ _ h.hp (permIn_mono _ _ _ _ _ _ h.ha h.hb (by omega) hq),Below.permA permIn_all l_ h.below hq,fun i j h1 h2 h3 h4=> ?_⟩
 have hm:=h.hab
 by_cases hi:m≤i∧i<n
 ·
  have hj:n≤j:=by omega
  rw [hq.2.1 j (.inr hj)]
  exact permIn_all s s' m n (fun x=>lt s[j]! x=false) l_ hq (fun k hk1 hk2=>h.out k j (by have:=h.ha;omega) (by omega) h3 (.inr hj)) i hi.1 hi.2
 ·
  rw [hq.2.1 i (by omega)]
  by_cases hj:m≤j∧j<n
  · exact permIn_all s s' m n (fun x=>lt x s[i]! =false) l_ hq (fun k hk1 hk2=>h.out i k h1 (by omega) (by have:=h.hb;omega) (.inl (by omega))) j hj.1 hj.2
  · rw [hq.2.1 j (by omega)];exact h.out i j h1 h2 h3 h4
theorem PS.done (h:PS lt a0 b0 m n l s) (hs:SortedIn lt m n s):PermIn a0 b0 l s∧SortedIn lt a0 b0 s:=by
 refine ⟨h.hp,fun i j h1 h2 h3=> ?_⟩
 by_cases hh:i<m∨n≤j
 · exact h.out i j h1 h2 h3 hh
 · exact hs i j (by omega) h2 (by omega)
theorem PS.eq (hw:SWO lt) (h:PS lt a0 b0 m n l s) (hs:b0≤l.size) {pv:β} {k:Nat} (hm:0<m) (Z_:lt s[m-1]! pv=false) (hk:m<k) (hkn:k≤n) (hq:PermIn m n s s') (h1:∀i,m≤i→i<k→lt pv s'[i]! =false) (h2:∀i,k≤i→i<n→lt pv s'[i]! =true):
  PS lt a0 b0 k n l s':=by
 have h':=h.perm hs hq
 have hle:∀j,m≤j→j<n→lt s'[j]! pv=false:=by
  intro j hj1 hj2
  by_cases hjk:k≤j
  · exact hw.asym (h2 j hjk hj2)
  ·
   have hb:=h'.below
   rcases hb with hb|hb
   · omega
   ·
    have hb:=hb j hj1 hj2
    rw [hq.2.1 (m-1) (.inl (by omega))] at hb
    exact hw.ntrans _ _ _ hb Z_
 have key:∀i j,m≤i→i<k→m≤j→j<n→lt s'[j]! s'[i]! =false:=fun i j ha hb hc hd=>hw.ntrans _ _ _ (hle j hc hd) (h1 i ha hb)
 refine ⟨by have:=h.ha;omega,hkn,h.hb,h'.hp,.inr fun i hi1 hi2=>key (k-1) i (by omega) (by omega) (by omega) hi2,fun i j g1 g2 g3 g4=> ?_⟩
 by_cases hh:i<m∨n≤j
 · exact h'.out i j g1 g2 g3 hh
 · exact key i j (by omega) (by omega) (by omega) (by omega)
structure bJ (lt:β→β→Bool) (m n k:Nat) (s:Array β):Prop where
 h1:m≤k
 h2:k<n
 lo:∀i,m≤i→i<k→lt s[i]! s[k]! =true
 up:∀i,k<i→i<n→lt s[i]! s[k]! =false
theorem PS.left (hw:SWO lt) {k:Nat} (h:PS lt a0 b0 m n l s) (hs:b0≤l.size) (hp:bJ lt m n k s) (hq:PermIn m k s s') (pP:SortedIn lt m k s'):PS lt a0 b0 (k+1) n l s':=by
 obtain ⟨h1,h2,lo,up⟩:=hp
 have hsz:s.size=l.size:=h.hp.1
 have hks:k≤s.size:=by have:=h.hb;omega
 have YH:PermIn m n s s':=permIn_mono _ _ _ _ _ _ (Nat.le_refl _) (by omega) (by have:=h.hb;omega) hq
 have h':=h.perm hs YH
 have ek:s'[k]! =s[k]! :=hq.2.1 k (.inr (Nat.le_refl _))
 have lo':∀i,m≤i→i<k→lt s'[i]! s[k]! =true:=fun i g1 g2=>permIn_all s s' m k (fun x=>lt x s[k]! =true) hks hq lo i g1 g2
 have up':∀i,k<i→i<n→lt s'[i]! s[k]! =false:=fun i g1 g2=>by rw [hq.2.1 i (.inr (by omega))];exact up i g1 g2
 refine ⟨by have:=h.ha;omega,by omega,h.hb,h'.hp,.inr fun i g1 g2=> ?_,fun i j g1 g2 g3 g4=> ?_⟩
 · rw [show k+1-1=k by omega,ek];exact up' i (by omega) g2
 ·
  by_cases hh:i<m∨n≤j
  · exact h'.out i j g1 g2 g3 hh
  ·
   rcases Nat.lt_trichotomy i k with hik|hik|hik
   ·
    rcases Nat.lt_trichotomy j k with hjk|hjk|hjk
    · exact pP i j (by omega) g2 hjk
    · subst hjk;rw [ek];exact hw.asym (lo' i (by omega) hik)
    · exact hw.ntrans _ _ _ (up' j hjk (by omega)) (hw.asym (lo' i (by omega) hik))
   · subst hik;rw [ek];exact up' j g2 (by omega)
   · omega
theorem PS.right (hw:SWO lt) {k:Nat} (h:PS lt a0 b0 m n l s) (hs:b0≤l.size) (hp:bJ lt m n k s) (hq:PermIn (k+1) n s s') (pP:SortedIn lt (k+1) n s'):PS lt a0 b0 m k l s':=by
 obtain ⟨h1,h2,lo,up⟩:=hp
 have hsz:s.size=l.size:=h.hp.1
 have l_:n≤s.size:=by have:=h.hb;omega
 have YH:PermIn m n s s':=permIn_mono _ _ _ _ _ _ (by omega) (Nat.le_refl _) l_ hq
 have h':=h.perm hs YH
 have ek:s'[k]! =s[k]! :=hq.2.1 k (.inl (by omega))
 have lo':∀i,m≤i→i<k→lt s'[i]! s[k]! =true:=fun i g1 g2=>by rw [hq.2.1 i (.inl (by omega))];exact lo i g1 g2
 have up':∀i,k<i→i<n→lt s'[i]! s[k]! =false:=fun i g1 g2=>permIn_all s s' (k+1) n (fun x=>lt x s[k]! =false) l_ hq (fun i q1 q2=>up i (by omega) q2) i (by omega) g2
 refine ⟨h.ha,h1,by have:=h.hb;omega,h'.hp,?_,fun i j g1 g2 g3 g4=> ?_⟩
 ·
  rcases h'.below with hb|hb
  · exact .inl hb
  · exact .inr fun i q1 q2=>hb i q1 (by omega)
 ·
  by_cases hh:i<m∨n≤j
  · exact h'.out i j g1 g2 g3 hh
  ·
   rcases Nat.lt_trichotomy i k with hik|hik|hik
   ·
    rcases Nat.lt_trichotomy j k with hjk|hjk|hjk
    · omega
    · subst hjk;rw [ek];exact hw.asym (lo' i (by omega) hik)
    · exact hw.ntrans _ _ _ (up' j hjk (by omega)) (hw.asym (lo' i (by omega) hik))
   · subst hik;rw [ek];exact up' j g2 (by omega)
   · exact pP i j (by omega) g2 (by omega)
end
section
variable {β:Type} [Inhabited β] {c:β×β→Int} {st:List β}
def Adj (c:β×β→Int) (a b:Int) (l:List β):Prop:=∀k,a.toNat<k→k<b.toNat→ltc c l.toArray[k]! l.toArray[k-1]! =false
theorem Adj.go {a i k:Int} (h:Adj c a i st) (h0:0≤a) (ha:a<i) (hk:k=i-1) (hi:i.toNat<st.length) (hk':k.toNat<st.length) (hc:0≤c (st[i.toNat]'hi,st[k.toNat]'hk')):Adj c a (i+1) st:=fun m h1 h2=>by
 rcases Nat.lt_or_ge m i.toNat with hm|hm
 · exact h m h1 hm
 ·
  have e:m=i.toNat:=by omega
  subst e
  rw [show i.toNat-1=k.toNat by omega,gx hi,gx hk'];exact uR (by omega)
end
section
variable {β:Type} [Inhabited β]
def Ic (a b:Int) (l st:List β):Prop:=PermIn a.toNat b.toNat l.toArray st.toArray
def mT (c:β×β→Int) (a b:Int) (l st:List β):Prop:=PermIn a.toNat b.toNat l.toArray st.toArray∧SortedIn (ltc c) a.toNat b.toNat st.toArray
theorem Ic.len {a b:Int} {l st:List β} (h:Ic a b l st):st.length=l.length:=by have:=h.1;simpa using this
theorem mT.len {c:β×β→Int} {a b:Int} {l st:List β} (h:mT c a b l st):st.length=l.length:=by have:=h.1.1;simpa using this
def mU (c:β×β→Int) (hi first lo:Int) (l st:List β):Prop:=st.length=l.length∧st.toArray=siftDown (ltc c) hi.toNat first.toNat lo.toNat l.toArray
theorem mU.len {c:β×β→Int} {hi first lo:Int} {l st:List β} (h:mU c hi first lo l st):st.length=l.length:=h.1
abbrev PE (c:β×β→Int) (a b pv:Int) (l:List β):Nat×Array β:=partitionEqual (ltc c) l.toArray a.toNat b.toNat pv.toNat
abbrev PA (c:β×β→Int) (a b pv:Int) (l:List β):Nat×Bool×Array β:=partition (ltc c) l.toArray a.toNat b.toNat pv.toNat
def mV (c:β×β→Int) (a b pv:Int) (l st:List β):Prop:=st.length=l.length∧st.toArray=(PE c a b pv l).2
def mW (c:β×β→Int) (a b pv:Int) (l st:List β):Prop:=st.length=l.length∧st.toArray=(PA c a b pv l).2.2
theorem mV.len {c:β×β→Int} {a b pv:Int} {l st:List β} (h:mV c a b pv l st):st.length=l.length:=h.1
theorem mW.len {c:β×β→Int} {a b pv:Int} {l st:List β} (h:mW c a b pv l st):st.length=l.length:=h.1
theorem Ic.refl (a b:Int) (l:List β):Ic a b l l:=permIn_refl _ _ _
theorem Ic.swap {a b i j:Int} {l st:List β} (h:Ic a b l st) (hi:i.toNat<st.length) (hj:j.toNat<st.length) (h1:a.toNat≤i.toNat) (h2:i.toNat<b.toNat) (h3:a.toNat≤j.toNat) (h4:j.toNat<b.toNat) (hb:b.toNat≤l.length):
  Ic a b l ((st.set i.toNat (st[j.toNat]'hj)).set j.toNat (st[i.toNat]'hi)):=by
 unfold Ic
 rw [sw hi hj]
 exact permIn_trans _ _ _ _ _ h (swp_permIn _ _ _ _ _ h1 h2 h3 h4 (by have:=h.len;simp;omega))
theorem Ic.trans {a b:Int} {l m st:List β} (h:Ic a b l m) (k:Ic a b m st):Ic a b l st:=permIn_trans _ _ _ _ _ h k
end
section
open Go
variable {P:Program} {L:Lg P} {n:Fm} {fz:Nat} {E:Env} {M0:Av} {w0:World} {S:Nat→Prop} {rs:List Ao} {new:Bool} {b:Nat} {T:TypeId} {ps:List Pr}
end
end Cp
namespace Cp
open Go Go.RowKit Go.Great
section
variable {P:Program} {L:Lg P} {n:Fm} {fz:Nat} {E:Env} {I:CU} {Q:Exit→Act→World→Prop}
theorem Tr.Nc {α0 α1:Type} (K:Env) (hK:CD E K) (F:α0→α1→Value→Env) (Ii:α0→α1→Value→CU) (C:α0→α1→Prop) {x y:Code} (h:Tr L n E I x (Exit.then (fun a w=>∃x0 x1 v0,C x0 x1∧St n (F x0 x1 v0++K) (Ii x0 x1 v0) a w) Q))
  (k:∀x0 x1 v0,C x0 x1→Tr L n (F x0 x1 v0++K) (Ii x0 x1 v0) y Q):Tr L n E I (.seq x y) Q:=
 Tr.cut (fun y:α0×α1×Value=>F y.1 y.2.1 y.2.2++K) (fun y=>Ii y.1 y.2.1 y.2.2) (fun y=>C y.1 y.2.1) (Tr.post h fun e a w h=>by cases e<;>first|exact h|(obtain ⟨x0,x1,v0,h1,h2⟩:=h;exact ⟨(x0,x1,v0),h1,h2⟩)) fun y hy=>k y.1 y.2.1 y.2.2 hy
end
section
variable {P:Program} {L:Lg P} {n:Fm} {fz:Nat} {E:Env} {M0:Av} {w0:World} {S:Nat→Prop} {rs:List Ao} {β:Type} {e:TypeId} {sz:Nat} {f:β→List Pr} {Φ:List β→Prop} {v:Value}
theorem St.jI {rows:List (List Pr)} (j d:Nat) {p:Pr} (hj:rs[j]? =some (BX e sz rows v)) (hd:E.lookup d=some (Ag v p)) (hf:∀r∈rows,r.length=sz) {a:Act} {w:World} (hs:St n E (Hp M0 w0 S rs) a w):
  St n ((d,Ag v (slice sz rows))::E) (Hp M0 w0 S (rs.set j (Aq e sz v))) a w:=by
 obtain ⟨M,h1,h2,h3,h4⟩:=hs
 have h4:At M0 w0 S rs M w:=h4
 obtain ⟨M',h6,h7,h8⟩:=At.pO h4 hj hf
 refine ⟨M',h1,h2,fun s q hq=> ?_,h7⟩
 simp only [List.lookup] at hq
 split at hq
 ·
  rename_i e1
  have:s=d:=by simpa using e1
  subst this
  simp only [Option.some.injEq] at hq
  subst hq
  have h9:=(h3 _ _ hd).1
  exact ⟨h9,by rw [h9];exact h8⟩
 · exact q.st _ _ _ _ _ h6 (h3 s q hq)
theorem Tr.jI {Q:Exit→Act→World→Prop} {c:Code} {rows:List (List Pr)} (j d:Nat) {p:Pr} (hj:rs[j]? =some (BX e sz rows v)) (hd:E.lookup d=some (Ag v p)) (hf:∀r∈rows,r.length=sz)
  (k:Tr L n ((d,Ag v (slice sz rows))::E) (Hp M0 w0 S (rs.set j (Aq e sz v))) c Q):Tr L n E (Hp M0 w0 S rs) c Q:=
 fun a w hs=>k a w (hs.jI j d hj hd hf)
theorem HU {rows:List (List Pr)} (h:rows=[]):Pr.le (is (.slice none 0 0)) (Ag (.slice none 0 0) (lens rows.length)):=by
 subst h;exact fun _ _ _ hv=>⟨hv,⟨none,0,by rw [hv];rfl⟩⟩
theorem Cr {v:Value} {a b:Nat} (h:a=b):Pr.le (Ag v (lens a)) (Ag v (lens b)):=by subst h;exact Pr.le_refl _
end
section
variable {P:Program} {L:Lg P} {n:Fm} {fz:Nat} {E:Env} {M0:Av} {w0:World} {S:Nat→Prop} {rs:List Ao} {o:Oper}
end
section
variable {P:Program} {L:Lg P} {n:Fm} {fz:Nat} {E:Env} {M0:Av} {w0:World} {S:Nat→Prop} {rs:List Ao} {ε:Type} {res:ε→List Ao}
def Gh (res:ε→List Ao) (es:List ε):List Ao:=es.flatMap res
theorem R5:∀{es:List ε} {k:Nat} {x:ε},es[k]? =some x→(Gh res es).Perm (res x++Gh res (es.eraseIdx k))
 |[],_,_,h=>by simp at h
 |a::es,0,x,h=>by
  simp only [List.getElem?_cons_zero,Option.some.injEq] at h
  subst h
  exact List.Perm.refl _
 |a::es,k+1,x,h=>by
  have ih:=R5 (es:=es) (k:=k) (x:=x) (by simpa using h)
  show (res a++Gh res es).Perm (res x++(res a++Gh res (es.eraseIdx k)))
  refine (ih.append_left (res a)).trans ?_
  rw [←List.append_assoc,←List.append_assoc]
  exact List.perm_append_comm.append_right _
theorem Wz:∀{es:List ε} {k:Nat} (x:ε),k<es.length→(res x++Gh res (es.eraseIdx k)).Perm (Gh res (es.set k x))
 |[],_,_,h=>absurd h (Nat.not_lt_zero _)
 |a::es,0,x,_=>List.Perm.refl _
 |a::es,k+1,x,h=>by
  have ih:=Wz (es:=es) (k:=k) x (by simpa using h)
  show (res x++(res a++Gh res (es.eraseIdx k))).Perm (res a++Gh res (es.set k x))
  refine List.Perm.trans ?_ (ih.append_left (res a))
  rw [←List.append_assoc,←List.append_assoc]
  exact List.perm_append_comm.append_right _
theorem Tc (es:List ε) (x:ε):Gh res (es++[x])=Gh res es++res x:=by unfold Gh;simp
theorem Oh {a b c:List Ao} (h:b.Perm c):(a++b).Perm (a++c):=h.append_left a
theorem St.perm {rs':List Ao} (hp:rs.Perm rs') {a:Act} {w:World} (h:St n E (Hp M0 w0 S rs) a w):St n E (Hp M0 w0 S rs') a w:=by
 obtain ⟨M,h1,h2,h3,h4⟩:=h
 exact ⟨M,h1,h2,h3,At.perm hp h4⟩
theorem Tr.focus {Q:Exit→Act→World→Prop} {c:Code} (CT:List Ao) {es:List ε} {k:Nat} {x:ε} (hx:es[k]? =some x) (NS:rs=CT++Gh res es) (kk:Tr L n E (Hp M0 w0 S (res x++(CT++Gh res (es.eraseIdx k)))) c Q):Tr L n E (Hp M0 w0 S rs) c Q:=
 Tr.conv (fun _ _ hs=>hs.perm (by
  subst NS
  refine (Oh (R5 hx)).trans ?_
  rw [←List.append_assoc,←List.append_assoc]
  exact List.perm_append_comm.append_right _)) kk
theorem LR (CT:List Ao) {es:List ε} {k:Nat} (x:ε) (hk:k<es.length) (NS:rs=res x++(CT++Gh res (es.eraseIdx k))):rs.Perm (CT++Gh res (es.set k x)):=by
 subst NS
 refine List.Perm.trans ?_ (Oh (Wz x hk))
 rw [←List.append_assoc,←List.append_assoc]
 exact List.perm_append_comm.append_right _
theorem Fin.R6 {Q:Exit→Act→World→Prop} {e:Exit} (CT:List Ao) {es:List ε} {k:Nat} (x:ε) (hk:k<es.length) (NS:rs=res x++(CT++Gh res (es.eraseIdx k))) (kk:Fin n E (Hp M0 w0 S (CT++Gh res (es.set k x))) Q e):Fin n E (Hp M0 w0 S rs) Q e:=
 Fin.conv (fun _ _ hs=>hs.perm (LR CT x hk NS)) kk
theorem Tr.R6 {Q:Exit→Act→World→Prop} {c:Code} (CT:List Ao) {es:List ε} {k:Nat} (x:ε) (hk:k<es.length) (NS:rs=res x++(CT++Gh res (es.eraseIdx k))) (kk:Tr L n E (Hp M0 w0 S (CT++Gh res (es.set k x))) c Q):Tr L n E (Hp M0 w0 S rs) c Q:=
 Tr.conv (fun _ _ hs=>hs.perm (LR CT x hk NS)) kk
theorem Tr.fold {Q:Exit→Act→World→Prop} {c:Code} (CT:List Ao) {es:List ε} (x:ε) (NS:rs=res x++(CT++Gh res es)) (kk:Tr L n E (Hp M0 w0 S (CT++Gh res (es++[x]))) c Q):Tr L n E (Hp M0 w0 S rs) c Q:=
 Tr.conv (fun _ _ hs=>hs.perm (by
  subst NS
  rw [Tc,←List.append_assoc CT]
  exact List.perm_append_comm)) kk
theorem Tr.uS {Q:Exit→Act→World→Prop} {c:Code} {e:TypeId} {sz:Nat} {rows:List (List Pr)} {v:Value} (j:Nat) (hj:rs[j]? =some (BX e sz rows v)) (hne:rows≠[])
  (k:∀(b cap:Nat) (sp:List Value),v= .slice (some ⟨b,0,none⟩) rows.length cap→rows.length≤cap→cap≤maxLen→sp.length=(cap-rows.length)*sz→Tr L n E (Hp M0 w0 S (rs.set j (AB true b e (rows.flatten++sp.map is)))) c Q):Tr L n E (Hp M0 w0 S rs) c Q:=by
 intro a w hs
 obtain ⟨M,h1,h2,h3,h4⟩:=hs
 have h4:At M0 w0 S rs M w:=h4
 rcases (h4.hold _ (List.mem_of_getElem? hj)).1 with ⟨h5,_⟩|⟨b,cap,sp,rfl,h5,h6,h7,h8⟩
 · exact absurd h5 hne
 · exact k b cap sp rfl h5 h6 h7 a w ⟨M,h1,h2,h3,h4.Cl hj rfl rfl h8⟩
end
section
variable {P:Program} {L:Lg P} {n:Fm} {fz:Nat} {E:Env} {M0:Av} {w0:World} {S:Nat→Prop} {rs:List Ao} {o:Oper}
end
section
variable {P:Program} {L:Lg P} {n:Fm} {fz:Nat} {E:Env} {M0:Av} {w0:World} {S:Nat→Prop} {rs:List Ao} {o:Oper}
instance rZ (p q:Pr) [MI p] [MI q]:MI (EK [p,q]):=⟨fun M M' w v ⟨cs,h1,h2⟩=>⟨cs,h1,by
 match cs,h2 with
 |[a,b],h2=>exact ⟨MI.free _ _ _ _ h2.1,MI.free _ _ _ _ h2.2.1,trivial⟩⟩⟩
end
section
variable {P:Program} {L:Lg P} {n:Fm} {fz:Nat} {E:Env} {M0:Av} {w0:World} {S:Nat→Prop} {o:Oper}
end
section
variable {P:Program} {L:Lg P} {n:Fm} {fz:Nat} {E:Env} {M0:Av} {w0:World} {S:Nat→Prop} {rs:List Ao} {ε:Type} {res:ε→List Ao}
theorem At.R7 {Φ:ε→Av→World→Prop} {w:World} (hst:∀x M M',Ext M w M' w→Φ x M w→Φ x M' w) (h1:∀x rs M,At M0 w0 S (res x++rs) M w→∃M',Ext M w M' w∧At M0 w0 S rs M' w∧Φ x M' w):
  ∀(X:List ε) (CT:List Ao) (M:Av),At M0 w0 S (CT++Gh res X) M w→∃M',Ext M w M' w∧At M0 w0 S CT M' w∧∀x∈X,Φ x M' w
 |[],CT,M,h=>⟨M,Ext.refl _ _,by simpa [Gh] using h,fun x hx=>by simp at hx⟩
 |x::X,CT,M,h=>by
  have hp:(CT++Gh res (x::X)).Perm (res x++(CT++Gh res X)):=by
   show (CT++(res x++Gh res X)).Perm _
   rw [←List.append_assoc,←List.append_assoc]
   exact List.perm_append_comm.append_right _
  obtain ⟨M1,g1,g2,g3⟩:=h1 x _ M (At.perm hp h)
  obtain ⟨M2,k1,k2,k3⟩:=At.R7 hst h1 X CT M1 g2
  refine ⟨M2,g1.trans k1,k2,fun y hy=> ?_⟩
  rcases List.mem_cons.1 hy with rfl|hy
  · exact hst _ _ _ k1 g3
  · exact k3 y hy
theorem Tr.gP {Q:Exit→Act→World→Prop} {c:Code} (j:Nat) {new:Bool} {b:Nat} {T:TypeId} {ps:List Pr} (qs:List Pr) (hi:rs[j]? =some (AB new b T ps)) (h:ps=qs) (k:Tr L n E (Hp M0 w0 S (rs.set j (AB new b T qs))) c Q):Tr L n E (Hp M0 w0 S rs) c Q:=by
 subst h;exact Tr.Hl j ps hi (OL.rfl' ps) k
theorem Fin.gP {Q:Exit→Act→World→Prop} {e:Exit} (j:Nat) {new:Bool} {b:Nat} {T:TypeId} {ps:List Pr} (qs:List Pr) (hi:rs[j]? =some (AB new b T ps)) (h:ps=qs) (k:Fin n E (Hp M0 w0 S (rs.set j (AB new b T qs))) Q e):Fin n E (Hp M0 w0 S rs) Q e:=by
 subst h;exact Fin.Hl j ps hi (OL.rfl' ps) k
theorem bK {e:TypeId} {sz:Nat} {rows rows':List (List Pr)} {v:Value} {M:Av} {w:World} (hl:rows.length=rows'.length) (hf:rows.flatten.length=rows'.flatten.length) (h:∀vs,HL M w rows.flatten vs→HL M w rows'.flatten vs) (ho:(BX e sz rows v).h M w):(BX e sz rows' v).h M w:=by
 rcases ho with ⟨h1,h2⟩|⟨b,cap,sp,h1,h2,h3,h4,h5,cs,h6,h7,h8⟩
 ·
  refine .inl ⟨?_,h2⟩
  subst h1
  exact List.length_eq_zero_iff.1 hl.symm
 ·
  refine .inr ⟨b,cap,sp,by rw [←hl];exact h1,by rw [←hl];exact h2,h3,by rw [←hl];exact h4,h5,cs,h6,?_,h8⟩
  have e1:=h7.take rows.flatten.length
  have e2:=h7.drop rows.flatten.length
  rw [List.take_left] at e1
  rw [List.drop_left] at e2
  have:=(h _ e1).app e2
  rwa [List.take_append_drop] at this
theorem Tr.R7 {Q:Exit→Act→World→Prop} {c:Code} {X:List ε} {Φ:ε→Av→World→Prop} {e:TypeId} {sz d:Nat} {f g:ε→List Pr} {v:Value} {p:Pr} (CT:List Ao) (NS:rs=BX e sz (X.map f) v::CT++Gh res X) (hd:E.lookup d=some (Ag v p)) (hf:∀x,(f x).length=sz) (hg:∀x,(g x).length=sz)
  (hst:∀x M M' w,Ext M w M' w→Φ x M w→Φ x M' w) (h1:∀x rs M w,At M0 w0 S (res x++rs) M w→∃M',Ext M w M' w∧At M0 w0 S rs M' w∧Φ x M' w) (h2:∀x M w vs,Φ x M w→HL M w (f x) vs→HL M w (g x) vs)
  (k:Tr L n ((d,Ag v (slice sz (X.map g)))::E) (Hp M0 w0 S (Aq e sz v::CT)) c Q):Tr L n E (Hp M0 w0 S rs) c Q:=by
 subst NS
 intro a w hs
 obtain ⟨M,k1,k2,k3,k4⟩:=hs
 have k4:At M0 w0 S ((BX e sz (X.map f) v::CT)++Gh res X) M w:=k4
 obtain ⟨M1,g1,g2,g3⟩:=At.R7 (Φ:=Φ) (fun x M M'=>hst x M M' w) (fun x rs M=>h1 x rs M w) X _ M k4
 have hlen:∀(f:ε→List Pr),(∀x,(f x).length=sz)→(X.map f).flatten.length=X.length*sz:=fun f hf=>by
  rw [CZ (Bg hf),List.length_map]
 have hown:(BX e sz (X.map g) v).h M1 w:=by
  refine bK (by simp) (by rw [hlen f hf,hlen g hg]) (fun vs hvs=> ?_) (g2.hold _ (List.mem_cons_self ..)).1
  have key:∀(Y:List ε) (vs:List Value),(∀x∈Y,Φ x M1 w)→HL M1 w (Y.map f).flatten vs→HL M1 w (Y.map g).flatten vs:=by
   intro Y
   induction Y with
   |nil=>intro vs _ h;exact h
   |cons y Y ih=>
    intro vs hY h
    rw [List.map_cons,List.flatten_cons] at h ⊢
    have e1:=h.take (f y).length
    have e2:=h.drop (f y).length
    rw [List.take_left] at e1
    rw [List.drop_left] at e2
    have:=(h2 y M1 w _ (hY y (List.mem_cons_self ..)) e1).app (ih _ (fun x hx=>hY x (List.mem_cons_of_mem _ hx)) e2)
    rwa [List.take_append_drop] at this
  exact key X vs g3 hvs
 have g4:=g2.Cl (i:=0) (r':=BX e sz (X.map g) v) rfl rfl rfl hown
 obtain ⟨M2,j1,j2,j3⟩:=At.pO (j:=0) g4 rfl (Bg hg)
 refine k a w ⟨M2,k1,k2,fun s q hq=> ?_,j2⟩
 have hE:Ext M w M2 w:=g1.trans j1
 simp only [List.lookup] at hq
 split at hq
 ·
  rename_i e1
  have:s=d:=by simpa using e1
  subst this
  simp only [Option.some.injEq] at hq
  subst hq
  have h9:=(k3 _ _ hd).1
  exact ⟨h9,by rw [h9];exact j3⟩
 · exact q.st _ _ _ _ _ hE (k3 s q hq)
end
section
variable {P:Program} {L:Lg P} {n:Fm} {fz:Nat} {E:Env} {M0:Av} {w0:World} {S:Nat→Prop} {o:Oper}
theorem Td {I:CU} {t e:TypeId} {x:Operand} {m:Nat} (ho:o.op= .call { callee:= .builtin .len,args:= #[x],argTypes:= #[t] }) (ht:P.underlying t=some (.slice e)) (hx:VL E x (lens m)):Aa P I o E (int m):=
 Aa.same fun M w a he _=>by
  obtain ⟨A,c,h1⟩:=hx.ev he (by simp [ho,Op.operands,Call.operands])
  exact ⟨.int .i64 m,by simp [execOp,ho,resolve,invoke,builtin,Builtin.len_,h1,run_underlying ht,goInt],rfl⟩
end
end Cp
namespace Cp
open Go Go.RowKit
section
variable {P:Program} {L:Lg P} {I:CU} {o:Oper} {E:Env}
theorem YW {c y:Operand} {b d:Bool} (ho:o.op= .pick c (.const (.bool true)) y) (hc:VL E c (bool b)) (hy:VL E y (bool d)):Aa P I o E (bool (b||d)):=by
 cases b with
 |true=>exact Ja ho hc rfl (vl rfl)
 |false=>exact Jb ho hc rfl hy
theorem VB {c x:Operand} {b d:Bool} (ho:o.op= .pick c x (.const (.bool false))) (hc:VL E c (bool b)) (hx:VL E x (bool d)):Aa P I o E (bool (b&&d)):=by
 cases b with
 |true=>exact Ja ho hc rfl hx
 |false=>exact Jb ho hc rfl (vl rfl)
theorem VC {β:Type} {g:β→Pr} {l:List β} {qs:List Pr} {i:Int} (h:i.toNat<l.length):((l.map fun x=>[g x]).flatten++qs)[0+i.toNat*1]? =some (g (l[i.toNat]'h)):=
 Ta (f:=fun x=>[g x]) (fun _=>rfl) (List.getElem?_eq_getElem h) rfl
end
section
variable {P:Program} {L:Lg P} {n:Fm} {fz:Nat} {E:Env} {M0:Av} {w0:World} {S:Nat→Prop} {rs:List Ao} {o:Oper}
end
end Cp
namespace Cp
open Go Go.RowKit Go.Great
def HV {α:Type} (P:Program) (f:FuncId) (args:List Pr) (pre:List Ao) (C:α→Prop) (res:α→Pr) (post:α→List Ao):Prop:=Entry P f∧∀M0 w0 S rs M w vs,At M0 w0 S (pre++rs) M w→HL M w args vs→
 Calls P f vs.toArray w fun e w'=>∃v M' x,e= .returned v∧C x∧(res x).h M' w' v∧Ext M w M' w'∧At M0 w0 S (post x++rs) M' w'
def Oi {α:Type} (M0:Av) (w0:World) (S:Nat→Prop) (rs:List Ao) (M1:Av) (w1:World) (C:α→Prop) (res:α→Pr) (post:α→List Ao) (e:Ending) (w':World):Prop:=∃v M' x,e= .returned v∧C x∧(res x).h M' w' v∧Ext M1 w1 M' w'∧At M0 w0 S (post x++rs) M' w'
section
variable {P:Program} {L:Lg P} {n:Fm} {fz:Nat} {E:Env} {M0:Av} {w0:World} {S:Nat→Prop} {rs:List Ao} {α:Type} {pre:List Ao} {C:α→Prop} {res:α→Pr} {post:α→List Ao} {M1:Av} {w1:World} {g:Func} {o:Oper} {r:List Oper} {ops:Array Oper}
theorem HV.of {f : FuncId} {c : Code} {ps : List Pr} (hf : P.funcs[f]? = some g) (hb : g.body = some c) (hname : (g.name == "runtime.NumGoroutine") = false) (hlen : ps.length ≤ g.ntmps)
  (h:∀M0 w0 S rs M1 w1,Tr (Uj P) g.ntmps (KL 0 ps) (Hp M0 w0 S (pre++Aj M1 w1::rs)) c (bodyPost P g (Oi M0 w0 S rs M1 w1 C res post))):HV P f ps pre C res post:=by
 refine ⟨⟨g,hf,hname,by rw [hb];rfl⟩,fun M0 w0 S rs M w vs hI hv=> ?_⟩
 refine calls_of_wp hf hb (h M0 w0 S rs M w _ _ ⟨M,?_,rfl,FT hv,?_⟩)
 ·
  have:=hv.length
  simp [this];omega
 · exact At.perm List.perm_middle.symm (At.Gi hI (r:=Aj M w) rfl (Ext.refl _ _))
theorem At.Qu {M:Av} {w:World} {f:FuncId} {args:List Pr} {rest:List Ao} (hf:HV P f args pre C res post) (hp:rs.Perm (pre++rest)) (hI:At M0 w0 S rs M w) {vs:List Value} (hv:HL M w args vs):
  Calls P f vs.toArray w fun e w'=>∃v M' x,e= .returned v∧C x∧(res x).h M' w' v∧Ext M w M' w'∧At M0 w0 S (post x++rest) M' w':=hf.2 M0 w0 S rest M w vs (At.perm hp hI) hv
theorem TO.Qu {Q:Exit→Act→World→Prop} {f:FuncId} {xs:Array Operand} {ts:Array TypeId} {ps:List Pr} (rest:List Ao) {d:Nat} (hg:o.guard=none) (hd:o.dst=some d) (hn:d<n) (ho:o.op= .call { callee:= .value (.func f),args:=xs,argTypes:=ts }) (hf:HV P f ps pre C res post)
  (hv:G7 E xs.toList ps) (hp:rs.Perm (pre++rest)) (k:∀x,C x→TO P n ops r ((d,res x)::E) (Hp M0 w0 S (post x++rest)) Q):TO P n ops (o::r) E (Hp M0 w0 S rs) Q:=
 TO.YK hg fun K M w a hsz hdf he hI hK=>by
  have hI:At M0 w0 S rs M w:=hI
  have h1:=G7.Fo (o:=o) (CH he) (xs:=xs.toList) (fun x hx=>by simp [ho,Op.operands,Call.operands];exact .inr (by simpa using hx)) hv
  have hrun:(execOp a.eval o).run P w= .ok (.enter f (xs.toList.map a.eval).toArray) w:=by
   simp [execOp,ho,resolve,Deferred.ofValue,Act.eval,invoke,DH hf.1,GM xs]
  unfold Oper.wp
  rw [hrun]
  refine (At.Qu hf hp hI h1).mono ?_
  rintro e w' ⟨v,M',x,rfl,hC,h2,h3,h4⟩
  refine hK _ _ _ _ (k x hC) ⟨M',by rw [Bm];exact hsz,by rw [put_defers];exact hdf,?_,h4⟩
  intro s q hq
  simp only [List.lookup] at hq
  by_cases hs:s=d
  · subst hs;simp at hq;subst hq;rw [hd,Ba (by rw [hsz];exact hn)];exact h2
  · rw [show (s==d)=false by simpa using hs] at hq;rw [hd,BF hs];exact q.st _ _ _ _ _ h3 (he s q hq)
theorem YX {l:List Ao} {M:Av} {w:World} (h:At M0 w0 S (l++Aj M1 w1::rs) M w):Ext M1 w1 M w∧At M0 w0 S (l++rs) M w:=
 ⟨(h.hold (Aj M1 w1) (by simp)).1,(At.perm List.perm_middle h).K_⟩
theorem Fin.mX {rv:ResultVar} {q:Pr} {rs':List Ao} (x:α) (hr:g.results= #[rv]) (h:AO P E rs' rv q) (hC:C x) (hl:Pr.le q (res x)) (hp:rs'.Perm (post x++Aj M1 w1::rs)):
  Fin ⟨fz,[]⟩ E (Hp M0 w0 S rs') (bodyPost P g (Oi M0 w0 S rs M1 w1 C res post)) .ret:=by
 rintro a w ⟨M,_,hd,he,hi⟩
 have hi:At M0 w0 S rs' M w:=hi
 obtain ⟨v,hv,hp'⟩:=h M w a he (fun q hq=>(hi.hold q hq).1)
 obtain ⟨h1,h2⟩:=YX (At.perm hp hi)
 exact ⟨hd,v,results1 hr hv,_,M,x,rfl,hC,hl _ _ _ hp',h1,h2⟩
theorem Fin.Te {rv rv':ResultVar} {q q':Pr} {rs':List Ao} (x:α) (hr:g.results= #[rv,rv']) (h:AO P E rs' rv q) (h':AO P E rs' rv' q') (hC:C x) (hl:Pr.le (EK [q,q']) (res x)) (hp:rs'.Perm (post x++Aj M1 w1::rs)):
  Fin ⟨fz,[]⟩ E (Hp M0 w0 S rs') (bodyPost P g (Oi M0 w0 S rs M1 w1 C res post)) .ret:=by
 rintro a w ⟨M,_,hd,he,hi⟩
 have hi:At M0 w0 S rs' M w:=hi
 obtain ⟨v,hv,bL⟩:=h M w a he (fun q hq=>(hi.hold q hq).1)
 obtain ⟨v',iE,hp2⟩:=h' M w a he (fun q hq=>(hi.hold q hq).1)
 obtain ⟨h1,h2⟩:=YX (At.perm hp hi)
 exact ⟨hd,_,results2 hr hv iE,_,M,x,rfl,hC,hl _ _ _ ⟨[_,_],rfl,bL,hp2,trivial⟩,h1,h2⟩
end
section
variable {P:Program} {L:Lg P} {n:Fm} {fz:Nat} {E:Env} {M0:Av} {w0:World} {S:Nat→Prop} {rs:List Ao} {o:Oper}
def pQ:Value→Option Nat
 | .slice (some a) _ (_+1)=>some a.block
 |_=>none
def CV (e:TypeId) (sz:Nat) (rows:List (List Pr)) (v:Value):Ao where
 blk:=pQ v
 new:=true
 h M w:=(rows=[]∧∃A,v= .slice A 0 0)∨(∃(b cap:Nat) (spare:List Value),v= .slice (some ⟨b,0,none⟩) rows.length (cap+1)∧rows.length≤cap+1∧cap+1≤maxLen∧spare.length=(cap+1-rows.length)*sz∧(AB true b e (rows.flatten++spare.map is)).h M w)
 st M w M' w' he hk h:=by
  rcases h with h|⟨b,cap,spare,rfl,h1,h2,h3,h4⟩
  · exact .inl h
  · exact .inr ⟨b,cap,spare,rfl,h1,h2,h3,(AB true b e _).st _ _ _ _ he hk h4⟩
theorem BD {α:Type} {l:List α} {j:Nat} {x:α} (h:l[j]? =some x):j<l.length:=by
 rcases Nat.lt_or_ge j l.length with h'|h'
 · exact h'
 · rw [List.getElem?_eq_none h'] at h;cases h
theorem At.blank {M:Av} {w:World} {j:Nat} {r:Ao} (h:At M0 w0 S rs M w) (hj:rs[j]? =some r):At M0 w0 S (rs.set j Bp) M w:=
 At.perm (K9 (BD hj)) ((At.perm (Dp hj) h).K_.Gi (r:=Bp) rfl trivial)
theorem VD (sz:Nat) (A:Option Addr) (M:Av) (w:World):(slice sz []).h M w (.slice A 0 0):=⟨A,0,rfl,Nat.le_refl _,Nat.zero_le _,fun _=>rfl,fun i row h=>by simp at h⟩
theorem At.uT {M:Av} {w:World} {sz:Nat} {e:TypeId} {rows:List (List Pr)} {v:Value} {j:Nat} (h:At M0 w0 S rs M w) (hj:rs[j]? =some (CV e sz rows v)) (hl:∀r∈rows,r.length=sz):
  ∃M',Ext M w M' w∧At M0 w0 S (rs.set j Bp) M' w∧(slice sz rows).h M' w v:=by
 have hjl:=BD hj
 rcases (h.hold _ (List.mem_of_getElem? hj)).1 with ⟨rfl,A,rfl⟩|⟨b,cap,spare,rfl,hnc,hcm,hsp,jG⟩
 · exact ⟨M,Ext.refl _ _,h.blank hj,VD sz A M w⟩
 ·
  have hC:=h.Cl (r':=AB true b e (rows.flatten++spare.map is)) hj rfl rfl jG
  obtain ⟨M',h1,h2,h3⟩:=At.frz hC (List.getElem?_set_self hjl) hl hnc hcm (by rw [List.length_map];exact hsp)
  have h4:=h2.blank (j:=j) (by rw [List.set_set];exact List.getElem?_set_self hjl)
  rw [List.set_set,List.set_set] at h4
  exact ⟨M',h1,h4,h3⟩
theorem HL.set {M:Av} {w:World} {ps:List Pr} {vs:List Value} {k:Nat} {p q:Pr} (h:HL M w ps vs) (hk:ps[k]? =some p) (hq:∀u,p.h M w u→q.h M w u):HL M w (ps.set k q) vs:=by
 refine Qr (by rw [h.length];simp) fun k' p' hk'=> ?_
 rw [List.getElem?_set] at hk'
 split at hk'
 ·
  rename_i e1
  subst e1
  split at hk'
  ·
   obtain ⟨u,hu,gb⟩:=h.at_ k p hk
   simp at hk';subst hk'
   exact ⟨u,hu,hq u gb⟩
  · cases hk'
 · exact h.at_ k' p' hk'
theorem At.Mx {M:Av} {w:World} {i j k sz b:Nat} {new:Bool} {T e:TypeId} {ps:List Pr} {rows:List (List Pr)} {v:Value} (h:At M0 w0 S rs M w) (hi:rs[i]? =some (AB new b T ps)) (hj:rs[j]? =some (CV e sz rows v)) (hij:j≠i) (hk:ps[k]? =some (is v)) (hl:∀r∈rows,r.length=sz):
  ∃M',Ext M w M' w∧At M0 w0 S ((rs.set j Bp).set i (AB new b T (ps.set k (slice sz rows)))) M' w:=by
 obtain ⟨M',h1,h2,h3⟩:=h.uT hj hl
 have hi':(rs.set j Bp)[i]? =some (AB new b T ps):=by rw [List.getElem?_set_ne hij];exact hi
 refine ⟨M',h1,h2.Cl hi' rfl rfl ?_⟩
 obtain ⟨g1,cs,g2,g3,g4⟩:=(h2.hold _ (List.mem_of_getElem? hi')).1
 exact ⟨g1,cs,g2,g3.set hk (fun u hu=>by rw [show u=v from hu];exact h3),g4⟩
def part (sz:Nat) (v:Value) (k:Nat):Pr where
 h _ _ u:=∃a m c,v= .slice a m c∧k≤m∧u= .slice (if c=k then a else a.map fun x=>x.add (k*sz)) (m-k) (c-k)
 st _M _w _M' _w' _v _ h:=h
instance uU (sz:Nat) (v:Value) (k:Nat):One (part sz v k):=⟨by rintro M w u ⟨a,m,c,h1,h2,rfl⟩;exact ⟨rfl,rfl⟩⟩
theorem CX.frz {f:FuncId} {args:List Pr} {e:TypeId} {sz m:Nat} {rows:List (List Pr)} {R:Ao} (hl:∀r∈rows,r.length=sz) (h:CX P f args (lens m) R (fun v=>BX e sz rows v)):CX P f args (slice sz rows) R (fun _=>Bp):=by
 refine ⟨h.1,fun M0 w0 S rs M w vs hI hv=>(h.2 M0 w0 S rs M w vs hI hv).mono ?_⟩
 rintro e' w' ⟨v,M',rfl,h2,h3,h4⟩
 obtain ⟨M2,j1,j2,j3⟩:=At.pO (j:=0) h4 rfl hl
 exact ⟨v,M2,rfl,j3,h3.trans j1,j2.blank (j:=0) rfl⟩
def elp (sz:Nat) (v:Value) (i o:Nat):Pr where
 h _ _ u:=∃a m c,v= .slice (some a) m c∧u= .pointer (some (a.add (i*sz+o)))
 st _M _w _M' _w' _v _ h:=h
instance xR (sz:Nat) (v:Value) (k o:Nat):One (elp sz v k o):=⟨by rintro M w u ⟨a,m,c,h1,rfl⟩;exact ⟨rfl,rfl⟩⟩
theorem VE {t e:TypeId} {x y:Operand} {k:IntKind} {l:Int} {sz j:Nat} {T:TypeId} {rows:List (List Pr)} {v:Value} (ho:o.op= .indexAddr t x y) (ht:P.underlying t=some (.slice e)) (hz:Ay P e=some sz) (hx:VL E x (is v)) (hy:VL E y (is (.int k l))) (h0:0≤l) (hl:l<rows.length):
  L7 P M0 w0 S j (SR.c (CV T sz rows v)) o E (elp sz v l.toNat 0):=by
 intro M w a rs he hI hj
 have h1:a.eval x=v:=hx.ev he (by simp [ho,Op.operands])
 have h3:a.eval y= .int k l:=hy.ev he (by simp [ho,Op.operands])
 have hj':rs[j]? =some (CV T sz rows v):=hj
 rcases (hI.hold _ (List.mem_of_getElem? hj')).1 with ⟨rfl,A,hv⟩|⟨b,cap,spare,hv,hnc,hcm,hsp,jG⟩
 · simp at hl;omega
 ·
  have hrun:(execOp a.eval o).run P w= .ok (.value (.pointer (some ((⟨b,0,none⟩:Addr).add (l.toNat*sz))))) w:=by
   simp [execOp,ho,h1,h3,hv,Instr.indexAt,asIntOf,run_underlying ht,Ce hz,h0,hl]
  rw [hrun]
  exact ⟨⟨_,_,_,hv,rfl⟩,Below.refl _ _⟩
theorem Tf {sz:Nat}:∀{rows:List (List Pr)} {i:Nat} {row:List Pr} {o:Nat} {qs S:List Pr},(∀r∈rows,r.length=sz)→rows[i]? =some row→o+qs.length≤sz→
  (rows.flatten++S).take (i*sz+o)++qs++(rows.flatten++S).drop (i*sz+o+qs.length)=(rows.set i (row.take o++qs++row.drop (o+qs.length))).flatten++S
 |[],_,_,_,_,_,_,h,_=>by simp at h
 |a::l,0,row,o,qs,S,hl,h,ho=>by
  simp at h;subst h
  have h1:=hl a (by simp)
  rw [List.set_cons_zero,List.flatten_cons,List.flatten_cons,Nat.zero_mul,Nat.zero_add,List.append_assoc a,List.take_append_of_le_length (by omega),List.drop_append_of_le_length (by omega)]
  simp
 |a::l,i+1,row,o,qs,S,hl,h,ho=>by
  have h1:=hl a (by simp)
  have ih:=Tf (S:=S) (fun r hr=>hl r (List.mem_cons_of_mem _ hr)) (i:=i) (row:=row) (o:=o) (qs:=qs) (by simpa using h) ho
  rw [List.set_cons_succ, List.flatten_cons, List.flatten_cons, List.append_assoc a, List.append_assoc a, ← ih, List.take_append, List.drop_append, List.take_of_length_le (by rw [h1, Nat.succ_mul]; omega), List.drop_of_length_le (by rw [h1, Nat.succ_mul]; omega),
   show (i+1)*sz+o-a.length=i*sz+o by rw [h1,Nat.succ_mul];omega,show (i+1)*sz+o+qs.length-a.length=i*sz+o+qs.length by rw [h1,Nat.succ_mul];omega]
  simp
theorem Oj {t:TypeId} {x y:Operand} {sz j i q m:Nat} {T:TypeId} {rows rows':List (List Pr)} {row qs:List Pr} {v:Value} (hg:o.guard=none) (ho:o.op= .store t x y) (hx:VL E x (elp sz v i q)) (hy:VL E y (DR qs)) (hz:Ay P t=some m) (hm:qs.length=m)
  (hl:∀r∈rows,r.length=sz) (hi:rows[i]? =some row) (hq:q+m≤sz) (hps:rows.set i (row.take q++qs++row.drop (q+m))=rows'):DI P M0 w0 S n j (SR.c (CV T sz rows v)) (SR.c (CV T sz rows' v)) o E any:=by
 refine ⟨hg,fun M w a rs hsz he hI hj=> ?_⟩
 obtain ⟨a0,m0,c0,Zt,h1⟩:=hx.ev he (show x∈o.op.operands.toList by simp [ho,Op.operands])
 obtain ⟨h2,h3⟩:=hy.ev he (show y∈o.op.operands.toList by simp [ho,Op.operands])
 have hj':rs[j]? =some (CV T sz rows v):=hj
 have hjl:=BD hj'
 rcases (hI.hold _ (List.mem_of_getElem? hj')).1 with ⟨rfl,A,hv⟩|⟨b,cap,spare,hv,hnc,hcm,hsp,jG⟩
 · simp at hi
 ·
  subst hv
  injection Zt with e1 e2 e3
  injection e1 with e1
  subst e1
  have hC:=hI.Cl (r':=AB true b T (rows.flatten++spare.map is)) hj' rfl rfl jG
  have hjC:(rs.set j (AB true b T (rows.flatten++spare.map is)))[j]? =some (AB true b T (rows.flatten++spare.map is)):=List.getElem?_set_self hjl
  obtain ⟨_,cs,h4,h5,h6⟩:=jG
  have h5l:=h5.length
  have lu:=h2.length
  have FQ:=BD hi
  have hfl:=CZ hl
  rw [List.length_append,hfl,List.length_map] at h5l
  have hle:(i+1)*sz≤rows.length*sz:=Nat.mul_le_mul_right sz FQ
  rw [Nat.succ_mul] at hle
  have hcells:(a.eval y).cells.size=m:=by rw [←hm,←lu];simp
  have hrun:(storeCells ((⟨b,0,none⟩:Addr).add (i*sz+q)) (a.eval y).cells.toList 0).run P w= .ok () (w.setRow b (cs.take (i*sz+q)++(a.eval y).cells.toList++cs.drop (i*sz+q+m)).toArray):=by
   have:=run_storeCells_at (P:=P) b (i*sz+q) T (a.eval y).cells.toList 0 cs.toArray w h4 (by simp;omega) h3
   rw [Fx,Nat.zero_add]
   simpa [hcells] using this
  have E7:(execOp a.eval o).run P w= .ok .skip (w.setRow b (cs.take (i*sz+q)++(a.eval y).cells.toList++cs.drop (i*sz+q+m)).toArray):=by
   simp [execOp,ho,h1,Instr.storeAt,Instr.sureAddr,storeVar,Ce hz,hcells,hrun]
  rw [E7]
  have hfs:=Tf (S:=spare.map is) hl hi (o:=q) (qs:=qs) (by omega)
  rw [hm,hps] at hfs
  obtain ⟨h7, h8⟩ := At.write (qs := rows'.flatten ++ spare.map is) (cs := cs.take (i * sz + q) ++ (a.eval y).cells.toList ++ cs.drop (i * sz + q + m)) hC hjC (by rw [← hfs]; exact (((h5.take (i * sz + q)).app h2)).app (h5.drop (i * sz + q + m)))
   (fun c hc=>by
    simp only [List.mem_append] at hc
    rcases hc with (hc|hc)|hc
    · exact h6 c (List.mem_of_mem_take hc)
    · exact h3 c hc
    · exact h6 c (List.mem_of_mem_drop hc))
  rw [List.set_set] at h7
  refine ⟨M,trivial,h8,?_⟩
  have hlen:rows'.length=rows.length:=by rw [←hps,List.length_set]
  have h9:=h7.Cl (r':=CV T sz rows' (.slice (some ⟨b,0,none⟩) rows.length (cap+1))) (List.getElem?_set_self hjl) rfl rfl (.inr ⟨b,cap,spare,by rw [hlen],by rw [hlen];exact hnc,hcm,by rw [hlen];exact hsp,(h7.hold _ (List.mem_of_getElem? (List.getElem?_set_self hjl))).1⟩)
  rw [List.set_set] at h9
  exact h9
theorem At.mY:∀{l:List Ao} {M:Av} {w:World},At M0 w0 S (l++rs) M w→At M0 w0 S rs M w
 |[],_,_,h=>h
 |_::l,_,_,h=>At.mY (l:=l) h.K_
end
section
variable {P:Program} {L:Lg P} {E:Env} {I:CU} {o:Oper}
theorem bM {f:FuncId} {cx:Operand} {xs:Array Operand} {ts:Array TypeId} {ps caps:List Pr} {res:Pr} (ho:o.op= .call { callee:= .value cx,args:=xs,argTypes:=ts }) (hc:VL E cx (fn (.func f) caps)) (hf:BA P f (ps++caps) res) (hv:G7 E xs.toList ps):Aa P I o E res:=by
 intro M w a he hI
 have h1:=G7.Fo (o:=o) he (xs:=xs.toList) (fun x hx=>by simp [ho,Op.operands,Call.operands];exact .inr (by simpa using hx)) hv
 obtain ⟨cs,h2,h3⟩:=hc.ev he (by simp [ho,Op.operands,Call.operands])
 have hrun:(execOp a.eval o).run P w= .ok (.enter f ((xs.toList.map a.eval).toArray++cs.toArray)) w:=by
  simp [execOp,ho,resolve,Deferred.ofValue,h2,invoke,DH hf.1,GM xs]
 rw [hrun]
 have h4:=hf.2 M w _ (I.bd _ _ hI) (h1.app h3)
 exact ⟨Below.refl _ _,by simpa using h4⟩
section
variable {n:Fm} {fz:Nat} {M0:Av} {w0:World} {S:Nat→Prop}
end
end
def allI (p:Nat→Bool) (n:Nat):Bool:=(List.range n).all p
theorem Bn {p:Nat→Bool} {n:Nat}:allI p n=true↔∀j,j<n→p j=true:=by unfold allI;simp
theorem bN {p:Nat→Bool} {n:Nat} (h:∀j,j<n→p j=true):allI p n=true:=Bn.2 h
theorem LS {p:Nat→Bool} {n k:Nat} (hk:k<n) (h:p k=false):allI p n=false:=by
 rw [Bool.eq_false_iff];intro h';rw [Bn.1 h' k hk] at h;cases h
theorem Db {p:Nat→Bool} {k:Nat} (h:∀j,j<k→p j=true) (hk:p k=true):∀j,j<k+1→p j=true:=by
 intro j hj
 by_cases e:j=k
 · subst e;exact hk
 · exact h j (by omega)
section
variable {P:Program} {L:Lg P} {n:Fm} {fz:Nat} {I:CU}
def uV (P:Program) (I':CU) (M:Av) (w:World) (p:Pr):Result Next→Prop
 | .ok (.value v) w'=>∃M',p.h M' w' v∧Ext M w M' w'∧I'.h M' w'
 | .ok .skip w'=>∃M',p.h M' w' undef∧Ext M w M' w'∧I'.h M' w'
 | .ok (.enter f args) w'=>Calls P f args w' fun e w''=>∃v M',e= .returned v∧p.h M' w'' v∧Ext M w M' w''∧I'.h M' w''
 |_=>False
def bO (P:Program) (n:Fm) (I I':CU) (o:Oper) (E:Env) (p:Pr):Prop:=o.guard=none∧∀M w (a:Act),a.tmps.size=n.sz→CL M w E o a→I.h M w→uV P I' M w p ((execOp a.eval o).run P w)
def Qv (P:Program) (n:Fm) (I:CU) (ops:Array Oper):Nat→List Oper→Env→(CU→Env→Prop)→Prop
 |_,[],_,_=>False
 |0,o::r,E,K=>∃p I',bO P n I I' o E p∧(∀d,o.dst=some d→d<n)∧Ch P n I' ops r (upd o p E) (K I')
 |c+1,o::r,E,K=>∃p,Z9 P I ops o E p∧(∀d,o.dst=some d→d<n)∧Qv P n I ops c r (upd o p E) K
theorem Qv.op {ops:Array Oper} {o:Oper} {r:List Oper} {E:Env} {K:CU→Env→Prop} {d c:Nat} {p:Pr} (hg:o.guard=none) (hd:o.dst=some d) (hn:d<n) (h:Aa P I o E p)
  (k:Qv P n I ops c r ((d,p)::E) K):Qv P n I ops (c+1) (o::r) E K:=
 ⟨p,by unfold Z9;rw [hg];exact h,fun d' hd'=>by rw [hd] at hd';cases hd';exact hn,by unfold upd;rw [hd];exact k⟩
theorem Qv.turn {ops:Array Oper} {o:Oper} {r:List Oper} {E:Env} {K:CU→Env→Prop} {d:Nat} {p:Pr} (I':CU) (hd:o.dst=some d) (hn:d<n) (h:bO P n I I' o E p)
  (k:Ch P n I' ops r ((d,p)::E) (K I')):Qv P n I ops 0 (o::r) E K:=
 ⟨p,I',h,fun d' hd'=>by rw [hd] at hd';cases hd';exact hn,by unfold upd;rw [hd];exact k⟩
def bP (P:Program) (f:FuncId) (args:List Pr) (pre:List Ao) (res:Pr) (post:List Ao):Prop:=HV (α:=Unit) P f args pre (fun _=>True) (fun _=>res) (fun _=>post)
section
variable {M0:Av} {w0:World} {S:Nat→Prop} {rs:List Ao} {E:Env} {o:Oper} {g:Func} {M1:Av} {w1:World}
theorem bP.of {f : FuncId} {c : Code} {ps : List Pr} {pre post : List Ao} {res : Pr} (hf : P.funcs[f]? = some g) (hb : g.body = some c) (hname : (g.name == "runtime.NumGoroutine") = false) (hlen : ps.length ≤ g.ntmps)
  (h:∀M0 w0 S rs M1 w1,Tr (Uj P) g.ntmps (KL 0 ps) (Hp M0 w0 S (pre++Aj M1 w1::rs)) c (bodyPost P g (Oi M0 w0 S rs M1 w1 (fun _:Unit=>True) (fun _=>res) (fun _=>post)))):bP P f ps pre res post:=
 HV.of hf hb hname hlen h
theorem CX.pure {f:FuncId} {args:List Pr} {res:Pr} {R':Value→Ao} (h:CX P f args res Bp R'):BA P f args res:=by
 refine ⟨h.1,fun M w vs hb hv=> ?_⟩
 refine (h.2 M w FR [] M w vs ((At.begin hb).Gi (r:=Bp) rfl trivial) hv).mono ?_
 rintro e w' ⟨v,M',rfl,h2,h3,h4⟩
 exact ⟨v,rfl,res.st _ _ _ _ _ (Ext.less h4.m) h2,h4.below⟩
end
end
end Cp
