/-
  Part 2 of the texts that prove this claim, merged.
-/
import Derived.ChangeArms
import Derived.OpenShut
import Derived.ChangeSame
import Derived.RowKit
import Derived.ProofKit
import Derived.Laws.MakeOwn
import Derived.Test.YtppdobdifkefcaaGreatDoorProg
import Derived.KernelRfl
import Derived.Lib.ConvBytes
import Derived.Lib.Bytealg
import Derived.Laws.StructEq
import Derived.Laws.Externs
import Derived.Lib.AtoiErrMem
import Derived.Laws.IdiomRangeMap
import Derived.Sort.LotA
import Derived.Sort.LotB
import Derived.Sort.LotC
import Derived.Lib.AppendZeros
import Derived.Lib.AppendZerosOnto
import Derived.Test.YtppdobdifkefcaaGreatDoorPlWP1
set_option linter.all false
set_option maxRecDepth 40000
set_option maxHeartbeats 16000000
namespace Cp
open Go Go.RowKit Go.Great Go.ChangeShapes Go.WideShapes
def V8:Av:=fun _ _=>False
theorem ZW (w:World):Bd V8 w:=fun _ _ h=>h.elim
def HZ (P:Program) (t:TypeId) {α:Type} (ok:α→Prop) (f:α→List Pr):Prop:=
 ∀(H:Type) (enc:TypeId×Value→H) (w:World) (fuel:Nat) (cs:List Value) (x:DataW H×List MemPlace),DataW.trod enc P w 0 (fun _=>true) true fuel t cs=some x→∃a,ok a∧HL V8 w (f a) cs∧∀c∈cs,c.oneCell'=true
theorem HZ.map {P:Program} {t:TypeId} {α β:Type} {ok:α→Prop} {f:α→List Pr} {ok':β→Prop} {f':β→List Pr} (h:HZ P t ok f) (g:α→β) (h1:∀a,ok a→ok' (g a)) (h2:∀a,f' (g a)=f a):HZ P t ok' f':=by
 intro H enc w fuel cs x hx
 obtain ⟨a,h3,h4,h5⟩:=h H enc w fuel cs x hx
 exact ⟨g a,h1 a h3,by rw [h2];exact h4,h5⟩
theorem Ld {P:Program} {t:TypeId} {k:IntKind} (ht:P.underlying t=some (.int k)):HZ P t (fun n:Int=>(Lit.int k n).wf=true) (fun n=>[is (.int k n)]):=by
 intro H enc w fuel cs x hx
 obtain ⟨n,rfl,_,hw⟩:=DataW.trod_int ht hx
 exact ⟨n,hw,⟨rfl,trivial⟩,by simp [Value.oneCell']⟩
theorem HL.len {M:Av} {w:World}:∀{ps:List Pr} {vs:List Value},HL M w ps vs→ps.length=vs.length
 |[],[],_=>rfl
 |p::ps,v::vs,h=>by simp [HL.len h.2]
 |[],_::_,h=>h.elim
 |_::_,[],h=>h.elim
theorem HL.nth {M:Av} {w:World}:∀{ps:List Pr} {vs:List Value} (j:Nat) (p:Pr),HL M w ps vs→ps[j]? =some p→∃v,vs[j]? =some v∧p.h M w v
 |p::ps,v::vs,0,q,h,hj=>by simp at hj;subst hj;exact ⟨v,rfl,h.1⟩
 |p::ps,v::vs,j+1,q,h,hj=>by simpa using HL.nth j q h.2 (by simpa using hj)
 |[],[],_,_,_,hj=>by simp at hj
 |[],_::_,_,_,h,_=>h.elim
 |_::_,[],_,_,h,_=>h.elim
theorem KC {H:Type} {enc:TypeId×Value→H} {P:Program} {w:World} {e:TypeId} {α:Type} {ok:α→Prop} {f:α→List Pr} (he:HZ P e ok f) {sz:Nat} (hc:P.cellsOf e=sz) {a:Addr} {m:Nat}:
  ∀(len:Nat),(∀i,i<len→∃y,(w.cells? 0 (a.add (i*sz)) sz).bind (DataW.trod enc P w 0 (fun _=>true) true m e)=some y)→
   ∃l:List α,l.length=len∧(∀z∈l,ok z)∧∀(i:Nat) z,l[i]? =some z→(f z).length=sz∧Row V8 w a (i*sz) (f z)
 |0,_=>⟨[],rfl,by simp,by simp⟩
 |len+1,h=>by
  obtain ⟨l,h1,h2,h3⟩:=KC he hc len (fun i hi=>h i (by omega))
  obtain ⟨y,hy⟩:=h len (by omega)
  obtain ⟨cs,hcs,hy⟩:=Option.bind_eq_some_iff.1 hy
  obtain ⟨z,hz,hl,h1c⟩:=he H enc w m cs y hy
  obtain ⟨_,hlen,hat⟩:=World.cells?_some hcs
  refine ⟨l++[z],by simp [h1],?_,fun i u hu=> ?_⟩
  ·
   intro u hu
   rcases List.mem_append.1 hu with hu|hu
   · exact h2 u hu
   · rw [List.mem_singleton.1 hu];exact hz
  ·
   rcases Nat.lt_trichotomy i len with hi|hi|hi
   ·
    rw [List.getElem?_append_left (by omega)] at hu
    exact h3 i u hu
   ·
    subst hi
    rw [List.getElem?_append_right (by omega),h1] at hu
    simp at hu;subst hu
    have hfl:(f z).length=sz:=by rw [hl.len,hlen]
    refine ⟨hfl,fun j p hp=> ?_⟩
    obtain ⟨v,hv,TC⟩:=hl.nth j p hp
    have hj:j<sz:=by
     rcases Nat.lt_or_ge j (f z).length with h'|h'
     · omega
     · rw [List.getElem?_eq_none h'] at hp;cases hp
    refine ⟨v,?_,fun hf=>hf,h1c v (List.mem_of_getElem? hv),TC⟩
    rw [←hv,←hat j hj]
    rw [add_add]
   · rw [List.getElem?_eq_none (by simp [h1];omega)] at hu;cases hu
theorem NR {P:Program} {t e:TypeId} {α:Type} {ok:α→Prop} {f:α→List Pr} {sz:Nat} (ht:P.underlying t=some (.slice e)) (hc:P.cellsOf e=sz) (he:HZ P e ok f):
  HZ P t (fun l:List α=>(∀z∈l,ok z)∧l.length≤maxLen) (fun l=>[slice sz (l.map f)]):=by
 intro H enc w fuel cs x hx
 rcases DataW.trod_slice ht hx with ⟨rfl,_⟩|⟨a,len,cap,elems,rest,n,rfl,rfl,_,_,hl,hm,hel,hat,_⟩
 · exact ⟨[],⟨by simp,by simp⟩,⟨⟨none,0,rfl,by simp,by simp,fun _=>rfl,by simp⟩,trivial⟩,by simp [Value.oneCell']⟩
 ·
  obtain ⟨l,h1,h2,h3⟩:=KC (H:=H) (enc:=enc) (w:=w) (a:=a) (m:=n) he hc len (fun i hi=>by
   have:=hat i hi
   rw [hc] at this
   rw [this,List.getElem?_eq_getElem (by omega)]
   exact ⟨_,rfl⟩)
  refine ⟨l,⟨h2,by omega⟩,⟨⟨some a,cap,by simp [h1],by simp;omega,hm,by simp,fun i row hr=> ?_⟩,trivial⟩,by simp [Value.oneCell']⟩
  rw [List.getElem?_map] at hr
  cases hz:l[i]? with
  |none=>rw [hz] at hr;cases hr
  |some z=>
   rw [hz] at hr;simp at hr;subst hr
   obtain ⟨h4,h5⟩:=h3 i z hz
   exact ⟨h4,a,rfl,h5⟩
theorem Qk {H:Type} {enc:TypeId×Value→H} {P:Program} {w:World} {t:TypeId} {α:Type} {ok:α→Prop} {p:α→Pr} (ho:HZ P t ok (fun a=>[p a])) {v:Value} {d:DataW H} {ps:List MemPlace} (h:DataW.Trod enc P w 0 (fun _=>true) true t v d ps) (hv:v.cells= #[v]):
  ∃a,ok a∧(p a).h V8 w v:=by
 obtain ⟨fuel,hf⟩:=h
 obtain ⟨a,h1,h2,_⟩:=ho _ _ _ _ _ _ hf
 rw [hv] at h2
 exact ⟨a,h1,h2.1⟩
theorem Gk {H:Type} {enc:TypeId×Value→H} {P:Program} (hl:laidOutB P=true) {W W':World} (hb:Below W.heap.size W W'):
  ∀{ts:List TypeId} {vs:List Value} {ds:List (DataW H)} {ps:List MemPlace},ts.all (fun t=>P.readableRec t&&decide (t<P.types.size))=true→DataW.TrodAll enc P W 0 (fun _=>true) true ts vs ds ps→(∀x∈ps,x.block<W.heap.size)→
   DataW.TrodAll enc P W' 0 (fun b=>decide (b<W.heap.size)) true ts vs ds ps
 |[],vs,ds,ps,_,h,_=>by
  obtain ⟨rfl,rfl,rfl⟩:=trodAll_nil h
  rfl
 |t::ts,vs,ds,ps,hr,h,hlt=>by
  obtain ⟨v,vs',d,ds',p,q,rfl,rfl,rfl,h1,h2⟩:=trodAll_cons h
  simp only [List.all_cons,Bool.and_eq_true,decide_eq_true_eq] at hr
  exact ⟨p,q,Below.trod hl hr.1.1 hr.1.2 h1 hb (fun x hx=>hlt x (List.mem_append_left _ hx)),Gk hl hb (by simpa using hr.2) h2 (fun x hx=>hlt x (List.mem_append_right _ hx)),rfl⟩
theorem TW {H:Type} {enc:TypeId×Value→H} {P:Program} {fn:Func} {s:ChangeSpec} {W W':World} {args:Array Value} {ds gs:List (DataW H)} {before p:List MemPlace} {tb:TypeId} (hl:laidOutB P=true)
  (hr:fn.params.toList.all (fun t=>P.readableRec t&&decide (t<P.types.size))=true) (hres:fn.resultTypes= #[tb]) (hb:P.underlying tb=some .bool) (hs:s.vars=[])
  (hA:DataW.TrodAll enc P W 0 (fun _=>true) true fn.params.toList args.toList ds p) (hp:before=p) (hW:DataW.Whole enc P fn.params.toList s.vars false W args.toList ds gs before)
  (hf:s.fn H (ds++gs)={ results:=[.lit (.bool true)],args:=ds }) (TX:Below W.heap.size W W'):s.post enc P fn false true false false W args (.bool true) W':=by
 subst hp
 refine ⟨ds,gs,before,[],before,[],hW,?_,?_,?_,TX.frame _,fun h=>by cases h⟩
 · rw [hf,hres];exact trodAll_mk1 (shut_bool hb _)
 · rw [hf];exact Gk hl TX hr hA (fun x hx=>by simpa using hW.lt x hx)
 · rw [hf,hs];rfl
end Cp
namespace Cp
open Go Go.RowKit Go.Great
section
variable {P:Program} {L:Lg P} {n:Fm} {fz:Nat} {E:Env} {I:Bn} {Q:Exit→Act→World→Prop}
theorem Tr.TY {α0:Type} (K:Env) (hK:Bc E K) (F:α0→Env) (Ii:α0→Bn) (C:α0→Prop) (μ:α0→Nat) {c:Code} (GU:α0)  (h0:C GU) (hs:Bc E (F GU)) (hI:∀M w,I.h M w→(Ii GU).h M w)
  (round:∀x0,C x0→Tr L n (F x0++K) (Ii x0) c (Exit.then (fun a w=>∃CZ,(C CZ∧μ CZ<μ x0)∧St n (F CZ++K) (Ii CZ) a w) Q)):Tr L n E I (.loop c) Q:=
 Tr.HU K hK (fun y:α0=>F y) (fun y=>Ii y) (fun y=>C y) (fun y=>μ y) GU h0 hs hI fun y hy=>
  Tr.post (round y hy) fun e a w h=>by
   cases e<;>first|exact h|(obtain ⟨CZ,h1,h2⟩:=h;exact ⟨CZ,h1,h2⟩)
theorem Fin.WW {α0:Type} {E1:α0→Env} {I1:α0→Bn} {C:α0→Prop} (x0:α0)  (hC:C x0) (hs:Bc E (E1 x0)) (hI:∀M w,I.h M w→(I1 x0).h M w):
  Fin n E I (Exit.then (fun a w=>∃CZ,C CZ∧St n (E1 CZ) (I1 CZ) a w) Q) .normal:=fun _ _ hst=>⟨x0,hC,hst.sub hs hI⟩
theorem Tr.F5 {α0 α1:Type} (K:Env) (hK:Bc E K) (F:α0→α1→Env) (Ii:α0→α1→Bn) (C:α0→α1→Prop) (μ:α0→α1→Nat) {c:Code} (GU:α0) (He:α1)  (h0:C GU He) (hs:Bc E (F GU He)) (hI:∀M w,I.h M w→(Ii GU He).h M w)
  (round:∀x0 x1,C x0 x1→Tr L n (F x0 x1++K) (Ii x0 x1) c (Exit.then (fun a w=>∃CZ DD,(C CZ DD∧μ CZ DD<μ x0 x1)∧St n (F CZ DD++K) (Ii CZ DD) a w) Q)):Tr L n E I (.loop c) Q:=
 Tr.HU K hK (fun y:α0×α1=>F y.1 y.2) (fun y=>Ii y.1 y.2) (fun y=>C y.1 y.2) (fun y=>μ y.1 y.2) (GU,He) h0 hs hI fun y hy=>
  Tr.post (round y.1 y.2 hy) fun e a w h=>by
   cases e<;>first|exact h|(obtain ⟨CZ,DD,h1,h2⟩:=h;exact ⟨(CZ,DD),h1,h2⟩)
theorem Fin.Hf {α0 α1:Type} {E1:α0→α1→Env} {I1:α0→α1→Bn} {C:α0→α1→Prop} (x0:α0) (x1:α1)  (hC:C x0 x1) (hs:Bc E (E1 x0 x1)) (hI:∀M w,I.h M w→(I1 x0 x1).h M w):
  Fin n E I (Exit.then (fun a w=>∃CZ DD,C CZ DD∧St n (E1 CZ DD) (I1 CZ DD) a w) Q) .normal:=fun _ _ hst=>⟨x0,x1,hC,hst.sub hs hI⟩
theorem Tr.Hg {α0 α1:Type} (K:Env) (hK:Bc E K) (F:α0→α1→Value→Env) (Ii:α0→α1→Value→Bn) (C:α0→α1→Prop) (μ:α0→α1→Nat) {c:Code} (GU:α0) (He:α1) (O8:Value) (h0:C GU He) (hs:Bc E (F GU He O8)) (hI:∀M w,I.h M w→(Ii GU He O8).h M w)
  (round:∀x0 x1 v0,C x0 x1→Tr L n (F x0 x1 v0++K) (Ii x0 x1 v0) c (Exit.then (fun a w=>∃CZ DD G1,(C CZ DD∧μ CZ DD<μ x0 x1)∧St n (F CZ DD G1++K) (Ii CZ DD G1) a w) Q)):Tr L n E I (.loop c) Q:=
 Tr.HU K hK (fun y:α0×α1×Value=>F y.1 y.2.1 y.2.2) (fun y=>Ii y.1 y.2.1 y.2.2) (fun y=>C y.1 y.2.1) (fun y=>μ y.1 y.2.1) (GU,He,O8) h0 hs hI fun y hy=>
  Tr.post (round y.1 y.2.1 y.2.2 hy) fun e a w h=>by
   cases e<;>first|exact h|(obtain ⟨CZ,DD,G1,h1,h2⟩:=h;exact ⟨(CZ,DD,G1),h1,h2⟩)
theorem Fin.B7 {α0 α1:Type} {E1:α0→α1→Value→Env} {I1:α0→α1→Value→Bn} {C:α0→α1→Prop} (x0:α0) (x1:α1) (v0:Value) (hC:C x0 x1) (hs:Bc E (E1 x0 x1 v0)) (hI:∀M w,I.h M w→(I1 x0 x1 v0).h M w):
  Fin n E I (Exit.then (fun a w=>∃CZ DD G1,C CZ DD∧St n (E1 CZ DD G1) (I1 CZ DD G1) a w) Q) .normal:=fun _ _ hst=>⟨x0,x1,v0,hC,hst.sub hs hI⟩
theorem Tr.KD {α0 α1 α2:Type} (K:Env) (hK:Bc E K) (F:α0→α1→α2→Env) (Ii:α0→α1→α2→Bn) (C:α0→α1→α2→Prop) (μ:α0→α1→α2→Nat) {c:Code} (GU:α0) (He:α1) (MR:α2)  (h0:C GU He MR) (hs:Bc E (F GU He MR)) (hI:∀M w,I.h M w→(Ii GU He MR).h M w)
  (round:∀x0 x1 x2,C x0 x1 x2→Tr L n (F x0 x1 x2++K) (Ii x0 x1 x2) c (Exit.then (fun a w=>∃CZ DD Eu,(C CZ DD Eu∧μ CZ DD Eu<μ x0 x1 x2)∧St n (F CZ DD Eu++K) (Ii CZ DD Eu) a w) Q)):Tr L n E I (.loop c) Q:=
 Tr.HU K hK (fun y:α0×α1×α2=>F y.1 y.2.1 y.2.2) (fun y=>Ii y.1 y.2.1 y.2.2) (fun y=>C y.1 y.2.1 y.2.2) (fun y=>μ y.1 y.2.1 y.2.2) (GU,He,MR) h0 hs hI fun y hy=>
  Tr.post (round y.1 y.2.1 y.2.2 hy) fun e a w h=>by
   cases e<;>first|exact h|(obtain ⟨CZ,DD,Eu,h1,h2⟩:=h;exact ⟨(CZ,DD,Eu),h1,h2⟩)
theorem Fin.D4 {α0 α1 α2:Type} {E1:α0→α1→α2→Env} {I1:α0→α1→α2→Bn} {C:α0→α1→α2→Prop} (x0:α0) (x1:α1) (x2:α2)  (hC:C x0 x1 x2) (hs:Bc E (E1 x0 x1 x2)) (hI:∀M w,I.h M w→(I1 x0 x1 x2).h M w):
  Fin n E I (Exit.then (fun a w=>∃CZ DD Eu,C CZ DD Eu∧St n (E1 CZ DD Eu) (I1 CZ DD Eu) a w) Q) .normal:=fun _ _ hst=>⟨x0,x1,x2,hC,hst.sub hs hI⟩
theorem Tr.FA {α0 α1 α2:Type} (K:Env) (hK:Bc E K) (F:α0→α1→α2→Value→Env) (Ii:α0→α1→α2→Value→Bn) (C:α0→α1→α2→Prop) (μ:α0→α1→α2→Nat) {c:Code} (GU:α0) (He:α1) (MR:α2) (O8:Value) (h0:C GU He MR) (hs:Bc E (F GU He MR O8)) (hI:∀M w,I.h M w→(Ii GU He MR O8).h M w)
  (round:∀x0 x1 x2 v0,C x0 x1 x2→Tr L n (F x0 x1 x2 v0++K) (Ii x0 x1 x2 v0) c (Exit.then (fun a w=>∃CZ DD Eu G1,(C CZ DD Eu∧μ CZ DD Eu<μ x0 x1 x2)∧St n (F CZ DD Eu G1++K) (Ii CZ DD Eu G1) a w) Q)):Tr L n E I (.loop c) Q:=
 Tr.HU K hK (fun y:α0×α1×α2×Value=>F y.1 y.2.1 y.2.2.1 y.2.2.2) (fun y=>Ii y.1 y.2.1 y.2.2.1 y.2.2.2) (fun y=>C y.1 y.2.1 y.2.2.1) (fun y=>μ y.1 y.2.1 y.2.2.1) (GU,He,MR,O8) h0 hs hI fun y hy=>
  Tr.post (round y.1 y.2.1 y.2.2.1 y.2.2.2 hy) fun e a w h=>by
   cases e<;>first|exact h|(obtain ⟨CZ,DD,Eu,G1,h1,h2⟩:=h;exact ⟨(CZ,DD,Eu,G1),h1,h2⟩)
theorem Fin.DI {α0 α1 α2:Type} {E1:α0→α1→α2→Value→Env} {I1:α0→α1→α2→Value→Bn} {C:α0→α1→α2→Prop} (x0:α0) (x1:α1) (x2:α2) (v0:Value) (hC:C x0 x1 x2) (hs:Bc E (E1 x0 x1 x2 v0)) (hI:∀M w,I.h M w→(I1 x0 x1 x2 v0).h M w):
  Fin n E I (Exit.then (fun a w=>∃CZ DD Eu G1,C CZ DD Eu∧St n (E1 CZ DD Eu G1) (I1 CZ DD Eu G1) a w) Q) .normal:=fun _ _ hst=>⟨x0,x1,x2,v0,hC,hst.sub hs hI⟩
theorem Tr.NS {α0 α1 α2 α3:Type} (K:Env) (hK:Bc E K) (F:α0→α1→α2→α3→Value→Env) (Ii:α0→α1→α2→α3→Value→Bn) (C:α0→α1→α2→α3→Prop) (μ:α0→α1→α2→α3→Nat) {c:Code} (GU:α0) (He:α1) (MR:α2) (WX:α3) (O8:Value) (h0:C GU He MR WX) (hs:Bc E (F GU He MR WX O8)) (hI:∀M w,I.h M w→(Ii GU He MR WX O8).h M w)
  (round:∀x0 x1 x2 x3 v0,C x0 x1 x2 x3→Tr L n (F x0 x1 x2 x3 v0++K) (Ii x0 x1 x2 x3 v0) c (Exit.then (fun a w=>∃CZ DD Eu LL G1,(C CZ DD Eu LL∧μ CZ DD Eu LL<μ x0 x1 x2 x3)∧St n (F CZ DD Eu LL G1++K) (Ii CZ DD Eu LL G1) a w) Q)):Tr L n E I (.loop c) Q:=
 Tr.HU K hK (fun y:α0×α1×α2×α3×Value=>F y.1 y.2.1 y.2.2.1 y.2.2.2.1 y.2.2.2.2) (fun y=>Ii y.1 y.2.1 y.2.2.1 y.2.2.2.1 y.2.2.2.2) (fun y=>C y.1 y.2.1 y.2.2.1 y.2.2.2.1) (fun y=>μ y.1 y.2.1 y.2.2.1 y.2.2.2.1) (GU,He,MR,WX,O8) h0 hs hI fun y hy=>
  Tr.post (round y.1 y.2.1 y.2.2.1 y.2.2.2.1 y.2.2.2.2 hy) fun e a w h=>by
   cases e<;>first|exact h|(obtain ⟨CZ,DD,Eu,LL,G1,h1,h2⟩:=h;exact ⟨(CZ,DD,Eu,LL,G1),h1,h2⟩)
theorem Fin.Ql {α0 α1 α2 α3:Type} {E1:α0→α1→α2→α3→Value→Env} {I1:α0→α1→α2→α3→Value→Bn} {C:α0→α1→α2→α3→Prop} (x0:α0) (x1:α1) (x2:α2) (x3:α3) (v0:Value) (hC:C x0 x1 x2 x3) (hs:Bc E (E1 x0 x1 x2 x3 v0)) (hI:∀M w,I.h M w→(I1 x0 x1 x2 x3 v0).h M w):
  Fin n E I (Exit.then (fun a w=>∃CZ DD Eu LL G1,C CZ DD Eu LL∧St n (E1 CZ DD Eu LL G1) (I1 CZ DD Eu LL G1) a w) Q) .normal:=fun _ _ hst=>⟨x0,x1,x2,x3,v0,hC,hst.sub hs hI⟩
theorem Tr.Ta {α0 α1 α2 α3:Type} (K:Env) (hK:Bc E K) (F:α0→α1→α2→α3→Value→Value→Env) (Ii:α0→α1→α2→α3→Value→Value→Bn) (C:α0→α1→α2→α3→Prop) (μ:α0→α1→α2→α3→Nat) {c:Code} (GU:α0) (He:α1) (MR:α2) (WX:α3) (O8:Value) (mB:Value) (h0:C GU He MR WX) (hs:Bc E (F GU He MR WX O8 mB)) (hI:∀M w,I.h M w→(Ii GU He MR WX O8 mB).h M w)
  (round:∀x0 x1 x2 x3 v0 v1,C x0 x1 x2 x3→Tr L n (F x0 x1 x2 x3 v0 v1++K) (Ii x0 x1 x2 x3 v0 v1) c (Exit.then (fun a w=>∃CZ DD Eu LL G1 v1',(C CZ DD Eu LL∧μ CZ DD Eu LL<μ x0 x1 x2 x3)∧St n (F CZ DD Eu LL G1 v1'++K) (Ii CZ DD Eu LL G1 v1') a w) Q)):Tr L n E I (.loop c) Q:=
 Tr.HU K hK (fun y:α0×α1×α2×α3×Value×Value=>F y.1 y.2.1 y.2.2.1 y.2.2.2.1 y.2.2.2.2.1 y.2.2.2.2.2) (fun y=>Ii y.1 y.2.1 y.2.2.1 y.2.2.2.1 y.2.2.2.2.1 y.2.2.2.2.2) (fun y=>C y.1 y.2.1 y.2.2.1 y.2.2.2.1) (fun y=>μ y.1 y.2.1 y.2.2.1 y.2.2.2.1) (GU,He,MR,WX,O8,mB) h0 hs hI fun y hy=>
  Tr.post (round y.1 y.2.1 y.2.2.1 y.2.2.2.1 y.2.2.2.2.1 y.2.2.2.2.2 hy) fun e a w h=>by
   cases e<;>first|exact h|(obtain ⟨CZ,DD,Eu,LL,G1,v1',h1,h2⟩:=h;exact ⟨(CZ,DD,Eu,LL,G1,v1'),h1,h2⟩)
theorem Fin.WY {α0 α1 α2 α3:Type} {E1:α0→α1→α2→α3→Value→Value→Env} {I1:α0→α1→α2→α3→Value→Value→Bn} {C:α0→α1→α2→α3→Prop} (x0:α0) (x1:α1) (x2:α2) (x3:α3) (v0:Value) (v1:Value) (hC:C x0 x1 x2 x3) (hs:Bc E (E1 x0 x1 x2 x3 v0 v1)) (hI:∀M w,I.h M w→(I1 x0 x1 x2 x3 v0 v1).h M w):
  Fin n E I (Exit.then (fun a w=>∃CZ DD Eu LL G1 v1',C CZ DD Eu LL∧St n (E1 CZ DD Eu LL G1 v1') (I1 CZ DD Eu LL G1 v1') a w) Q) .normal:=fun _ _ hst=>⟨x0,x1,x2,x3,v0,v1,hC,hst.sub hs hI⟩
end
structure DS where
 l:List Int
 at_:Nat
 h:at_≤l.length
 h2:l.length≤1000000000
def DS.val (s:DS) (n:Int):Int:=match s.l[s.at_]? with|some x=>x % n|none=>0
def DS.BN (s:DS):DS:=if h:s.at_<s.l.length then ⟨s.l,s.at_+1,h,s.h2⟩ else s
theorem DS.Ba (s:DS) {n:Int} (hn:1≤n):0≤s.val n∧s.val n<n:=by
 unfold DS.val
 split
 · exact ⟨Int.emod_nonneg _ (by omega),Int.emod_lt_of_pos _ (by omega)⟩
 · omega
theorem DS.WZ {s:DS} (h:s.l.length≤s.at_) (n:Int):s.val n=0:=by
 unfold DS.val;rw [List.getElem?_eq_none h]
theorem DS.Wa {s:DS} (h:s.l.length≤s.at_):s.BN=s:=by
 unfold DS.BN;rw [dif_neg (by omega)]
theorem DS.ZX {s:DS} {x:Int} (h:s.l[s.at_]? =some x) (n:Int):s.val n=x % n:=by
 unfold DS.val;rw [h]
theorem DS.ZY {s:DS} (h:s.at_<s.l.length):s.BN=⟨s.l,s.at_+1,h,s.h2⟩:=by
 unfold DS.BN;rw [dif_pos h]
def Ig (s:DS):List Pr:=[slice 1 (s.l.map fun n=>[int n]),int ((s.at_:Nat):Int)]
def NT (T:TypeId) (b:Nat) (s:DS):Aa:=AB true b T (Ig s)
def FP (T:TypeId) (b:Nat):Aa:=HX true b T (fun _:DS=>True) Ig
def DS.of (s:DS) (l:List Int):Int:=(l[(s.val l.length).toNat]?).getD 0
theorem DS.G2 (s:DS) {l:List Int} (h:l≠[]):s.of l∈l:=by
 have h0:1≤(l.length:Int):=by
  have:=List.length_pos_iff.2 h
  omega
 have:=s.Ba h0
 unfold DS.of
 rw [List.getElem?_eq_getElem (by omega)]
 exact List.getElem_mem _
section
variable {P:Program} {L:Lg P} {n:Fm} {fz:Nat} {E:Env} {M0:Av} {w0:World} {S:Nat→Prop} {rs:List Aa}
theorem Tr.Le {Q:Exit→Act→World→Prop} {c:Code} (i:Nat) {T:TypeId} {b:Nat} (hi:rs[i]? =some (FP T b)) (k:∀s,Tr L n E (Hp M0 w0 S (rs.set i (NT T b s))) c Q):Tr L n E (Hp M0 w0 S rs) c Q:=
 Tr.eR i hi fun s _=>k s
theorem Fin.Le {Q:Exit→Act→World→Prop} {e:Exit} (i:Nat) {T:TypeId} {b:Nat} (hi:rs[i]? =some (FP T b)) (k:∀s,Fin n E (Hp M0 w0 S (rs.set i (NT T b s))) Q e):Fin n E (Hp M0 w0 S rs) Q e:=by
 rintro a w ⟨M,h1,h2,h3,h4⟩
 have h4:An M0 w0 S rs M w:=h4
 obtain ⟨x,hx,hh⟩:=(h4.hold _ (List.mem_of_getElem? hi)).1
 exact k x a w ⟨M,h1,h2,h3,h4.CI hi rfl rfl hh⟩
theorem Fin.Ev {Q:Exit→Act→World→Prop} {e:Exit} (i:Nat) {T:TypeId} {b:Nat} (s:DS) {ps:List Pr} (hi:rs[i]? =some (AB true b T ps)) (hp:ps=Ig s) (k:Fin n E (Hp M0 w0 S (rs.set i (FP T b))) Q e):Fin n E (Hp M0 w0 S rs) Q e:=
 Fin.Ic i (fun _=>True) Ig s trivial hi hp k
theorem Tr.Ev {Q:Exit→Act→World→Prop} {c:Code} (i:Nat) {T:TypeId} {b:Nat} (s:DS) {ps:List Pr} (hi:rs[i]? =some (AB true b T ps)) (hp:ps=Ig s) (k:Tr L n E (Hp M0 w0 S (rs.set i (FP T b))) c Q):Tr L n E (Hp M0 w0 S rs) c Q:=
 Tr.Ic i (fun _=>True) Ig s trivial hi hp k
theorem TO.Rt {ops:Array Oper} {l:List Oper} {Q:Exit→Act→World→Prop} (s j:Nat) {v:Value} {f:Value→Aa} (g:Nat→Aa) (hs:E.lookup s=some (AZ v (Cp.ex fun b=>ptr b 0))) (hi:rs[j]? =some (f v)) (hf:∀b,f (.pointer (some ⟨b,0,none⟩))=g b)
  (k:∀b,TO P n ops l ((s,ptr b 0)::E) (Hp M0 w0 S (rs.set j (g b))) Q):TO P n ops l E (Hp M0 w0 S rs) Q:=by
 intro k0 hl a w hst
 obtain ⟨M,h1,h2,he,h4⟩:=hst
 obtain ⟨h5,b,h6⟩:=he s _ hs
 have hv:v= .pointer (some ⟨b,0,none⟩):=by rw [←h5];exact h6
 have hj:rs.set j (g b)=rs:=by
  have hjl:j<rs.length:=by rcases Nat.lt_or_ge j rs.length with h|h;exact h;rw [List.getElem?_eq_none h] at hi;cases hi
  rw [←hf b,←hv]
  rw [List.getElem?_eq_getElem hjl] at hi
  simp at hi
  rw [←hi,List.set_getElem_self]
 refine k b k0 hl a w ⟨M,h1,h2,?_,by rw [hj];exact h4⟩
 intro t q hq
 simp only [List.lookup] at hq
 by_cases ht:t=s
 · subst ht;simp at hq;subst hq;exact h6
 · rw [show (t==s)=false by simpa using ht] at hq;exact he t q hq
def KE (r:ResultVar) (a:Act):Sem Value:=match r with| .tmp t=>pure (a.tmps.getD t undef)| .cell c t=>do loadVar t (←asAddr (a.tmps.getD c undef))
def BE (P:Program) (E:Env) (rs:List Aa) (r:ResultVar) (p:Pr):Prop:=∀(M:Av) (w:World) (a:Act),DT M w E a→(∀q∈rs,q.h M w)→∃v,(KE r a).run P w= .ok v w∧p.h M w v
theorem BE.tmp {t:Tmp} {q p:Pr} (h:E.lookup t=some q) (hl:Pr.le q p):BE P E rs (.tmp t) p:=fun _ _ _ he _=>⟨_,rfl,hl _ _ _ (he _ _ h)⟩
theorem BE.cell (i:Nat) {c:Tmp} {t T:TypeId} {b m:Nat} {new:Bool} {ps:List Pr} {p:Pr} (h:E.lookup c=some (ptr b 0)) (hi:rs[i]? =some (AB new b T ps)) (ht:Dp P t=true) (hz:Af P t=some m) (hm:ps.length=m) (hl:Pr.le (agg ps) p):BE P E rs (.cell c t) p:=by
 intro M w a he hr
 obtain ⟨v,h1,h2⟩:=TR ht hz hm (hr _ (List.mem_of_getElem? hi))
 refine ⟨v,?_,hl _ _ _ h2⟩
 have hc:a.tmps.getD c undef= .pointer (some ⟨b,0,none⟩):=he _ _ h
 unfold KE
 simp only [hc,asAddr]
 simpa [Sem.run_bind] using h1
theorem G3 (g:Func) (a:Act):results g a.tmps=(do let vs ←g.results.mapM (fun r=>KE r a);pure (if h:vs.size=1 then vs[0] else .tuple vs)):=by
 have:(fun r:ResultVar=>KE r a)=(fun| .tmp t=>pure (a.tmps.getD t undef)| .cell c t=>do loadVar t (←asAddr (a.tmps.getD c undef))):=by
  funext r;cases r<;>rfl
 rw [this];rfl
theorem results1 {g:Func} {r:ResultVar} {a:Act} {w:World} {v:Value} (hr:g.results= #[r]) (h:(KE r a).run P w= .ok v w):(results g a.tmps).run P w= .ok v w:=by
 rw [G3,hr];simp [Sem.run_bind,h]
theorem results2 {g:Func} {r r':ResultVar} {a:Act} {w:World} {v v':Value} (hr:g.results= #[r,r']) (h:(KE r a).run P w= .ok v w) (h':(KE r' a).run P w= .ok v' w):(results g a.tmps).run P w= .ok (.tuple #[v,v']) w:=by
 rw [G3,hr];simp [Sem.run_bind,h,h']
theorem An.MS {M:Av} {w:World}:∀{pre:List Aa},An M0 w0 S (pre++rs) M w→An M0 w0 S rs M w
 |[],h=>h
 |_::_,h=>An.MS h.JC
variable {g:Func} {M1:Av} {w1:World}
theorem Fin.C2 {r:ResultVar} {p q:Pr} (hr:g.results= #[r]) (h:BE P E rs r q) (hl:Pr.le q p):Fin ⟨fz,[]⟩ E (Hp M0 w0 Ot rs) (bodyPost P g (Ou M0 w0 p)) .ret:=by
 rintro a w ⟨M,_,hd,he,hi⟩
 obtain ⟨v,hv,hp⟩:=h M w a he (fun q hq=>(hi.hold q hq).1)
 obtain ⟨h1,h2⟩:=Cq.HN M0 w0 M w hi
 exact ⟨hd,v,results1 hr hv,_,rfl,p.st _ _ _ _ _ (Ext.less h1) (hl _ _ _ hp),h2⟩
theorem Fin.KF {r r':ResultVar} {p q q':Pr} (hr:g.results= #[r,r']) (h:BE P E rs r q) (h':BE P E rs r' q') (hl:Pr.le (IM [q,q']) p):Fin ⟨fz,[]⟩ E (Hp M0 w0 Ot rs) (bodyPost P g (Ou M0 w0 p)) .ret:=by
 rintro a w ⟨M,_,hd,he,hi⟩
 obtain ⟨v,hv,hp⟩:=h M w a he (fun q hq=>(hi.hold q hq).1)
 obtain ⟨v',mC,hp'⟩:=h' M w a he (fun q hq=>(hi.hold q hq).1)
 obtain ⟨h1,h2⟩:=Cq.HN M0 w0 M w hi
 exact ⟨hd,_,results2 hr hv mC,_,rfl,p.st _ _ _ _ _ (Ext.less h1) (hl _ _ _ ⟨[_,_],rfl,hp,hp',trivial⟩),h2⟩
theorem Fin.ED (pre:List Aa) {r:ResultVar} {R:Aa} {R':Value→Aa} {p q:Pr} (hr:g.results= #[r]) (h:BE P E (pre++R::AX M1 w1::rs) r q) (hl:Pr.le q p) (hR:∀M w v,q.h M w v→R' v=R):
  Fin ⟨fz,[]⟩ E (Hp M0 w0 S (pre++R::AX M1 w1::rs)) (bodyPost P g (J7 M0 w0 S rs M1 w1 p R')) .ret:=by
 rintro a w ⟨M,_,hd,he,hi⟩
 obtain ⟨v,hv,hp⟩:=h M w a he (fun q hq=>(hi.hold q hq).1)
 obtain ⟨h1,h2⟩:=WR (An.MS hi)
 exact ⟨hd,v,results1 hr hv,_,M,rfl,hl _ _ _ hp,h1,by rw [hR _ _ _ hp];exact h2⟩
theorem Fin.NU (pre:List Aa) {r r':ResultVar} {R:Aa} {p q q':Pr} (hr:g.results= #[r,r']) (h:BE P E (pre++R::AX M1 w1::rs) r q) (h':BE P E (pre++R::AX M1 w1::rs) r' q') (hl:Pr.le (IM [q,q']) p):
  Fin ⟨fz,[]⟩ E (Hp M0 w0 S (pre++R::AX M1 w1::rs)) (bodyPost P g (J7 M0 w0 S rs M1 w1 p (fun _=>R))) .ret:=by
 rintro a w ⟨M,_,hd,he,hi⟩
 obtain ⟨v,hv,hp⟩:=h M w a he (fun q hq=>(hi.hold q hq).1)
 obtain ⟨v',mC,hp'⟩:=h' M w a he (fun q hq=>(hi.hold q hq).1)
 obtain ⟨h1,h2⟩:=WR (An.MS hi)
 exact ⟨hd,_,results2 hr hv mC,_,M,rfl,hl _ _ _ ⟨[_,_],rfl,hp,hp',trivial⟩,h1,h2⟩
theorem BW {α:Type} {p:α→Pr} {q:Pr} (x:α) (h:Pr.le q (p x)):Pr.le q (Cp.ex p):=fun M w v hv=>⟨x,h M w v hv⟩
theorem CS {φ:Prop} {p q:Pr} (hφ:φ) (h:Pr.le q p):Pr.le q (fact φ p):=fun M w v hv=>⟨hφ,h M w v hv⟩
end
section
variable {P:Program} {L:Lg P} {n:Fm} {fz:Nat} {E:Env} {M0:Av} {w0:World} {S:Nat→Prop} {rs:List SR} {o:Oper}
theorem FB {t:TypeId} {x:Operand} {q:Tmp} {j:Nat} {new:Bool} {b off:Nat} {T:TypeId} {ps:List Pr} {p:Pr} [One p] (hg:o.guard=none) (hd:o.dst=none) (ho:o.op= .store t x (.tmp q)) (hx:VL E x (ptr b off)) (hy:E.lookup q=some p)
  (hz:Af P t=some 1) (hl:off+1≤ps.length):Cd P M0 w0 S n j (SR.c (AB new b T ps)) ⟨q,fun v=>AB new b T (ps.take off++[AZ v p]++ps.drop (off+1))⟩ o E any:=by
 refine ⟨hg,fun M w a rs hsz he hI hj=> ?_⟩
 have h1:a.eval x= .pointer (some ⟨b,off,none⟩):=hx.ev he (by simp [ho,Op.operands])
 have hv:VL E (.tmp q) p:=⟨_,hy,Pr.le_refl _⟩
 have hp:=hv.ev he (show (Operand.tmp q)∈o.op.operands.toList by simp [ho,Op.operands])
 obtain ⟨h2,h3⟩:=(VL.le hv (AD p)).ev he (show (Operand.tmp q)∈o.op.operands.toList by simp [ho,Op.operands])
 obtain ⟨⟨_,cs,h4,h5,h6⟩,_⟩:=hI.hold _ (List.mem_of_getElem? hj)
 have eF:=h5.length
 have YS:=h2.length
 have hone:(a.eval (.tmp q)).cells= #[a.eval (.tmp q)]:=(One.one (p:=p) M w _ hp).1
 have h2':HL M w [AZ (a.eval (.tmp q)) p] (a.eval (.tmp q)).cells.toList:=by rw [hone];exact ⟨⟨rfl,hp⟩,trivial⟩
 have hcells:(a.eval (.tmp q)).cells.size=1:=by rw [hone];rfl
 have hrun:(storeCells ⟨b,off,none⟩ (a.eval (.tmp q)).cells.toList 0).run P w= .ok () (w.setRow b (cs.take off++(a.eval (.tmp q)).cells.toList++cs.drop (off+1)).toArray):=by
  have:=run_storeCells_at (P:=P) b off T (a.eval (.tmp q)).cells.toList 0 cs.toArray w h4 (by simp [hcells];omega) h3
  simpa [hcells] using this
 have DC:(execOp a.eval o).run P w= .ok .skip (w.setRow b (cs.take off++(a.eval (.tmp q)).cells.toList++cs.drop (off+1)).toArray):=by
  simp [execOp,ho,h1,Instr.storeAt,Instr.sureAddr,storeVar,BT hz,hcells,hrun]
 rw [DC]
 obtain ⟨h7, h8⟩ := An.write (qs := ps.take off ++ [AZ (a.eval (.tmp q)) p] ++ ps.drop (off + 1)) (cs := cs.take off ++ (a.eval (.tmp q)).cells.toList ++ cs.drop (off + 1)) hI hj ((((h5.take off).app h2')).app (h5.drop (off + 1)))
  (fun c hc=>by
   simp only [List.mem_append] at hc
   rcases hc with (hc|hc)|hc
   · exact h6 c (List.mem_of_mem_take hc)
   · exact h3 c hc
   · exact h6 c (List.mem_of_mem_drop hc))
 refine ⟨M,trivial,h8,?_⟩
 have hput:SR.at_ (a.put o.dst undef) ⟨q,fun v=>AB new b T (ps.take off++[AZ v p]++ps.drop (off+1))⟩=AB new b T (ps.take off++[AZ (a.eval (.tmp q)) p]++ps.drop (off+1)):=by rw [hd];rfl
 rw [hput];exact h7
theorem Tc {j s:Nat} {f:Value→Aa} (hR:rs[j]? =some ⟨s,f⟩) (a:Act):(rs.set j (SR.c (f (a.tmps.getD s undef)))).map (·.at_ a)=rs.map (·.at_ a):=by
 rw [List.map_set]
 apply List.ext_getElem?
 intro i
 rw [List.getElem?_set]
 by_cases hij:j=i
 ·
  subst hij
  rw [if_pos rfl]
  split
  · rw [List.getElem?_map,hR];rfl
  ·
   rename_i hge
   rw [List.getElem?_eq_none (by omega)]
 · rw [if_neg hij]
theorem BH.NV {Q:Exit→Act→World→Prop} (j i s:Nat) {f g:Value→Aa} {p:Pr} (hR:rs[j]? =some ⟨s,f⟩) (hR':rs[i]? =some ⟨s,g⟩) (hij:j≠i) (hs:E.lookup s=some p) (k:∀v,BH n M0 w0 S ((s,AZ v p)::E) ((rs.set j (SR.c (f v))).set i (SR.c (g v))) Q):BH n M0 w0 S E rs Q:=by
 rintro a w ⟨M,h1,h2,h3,h4⟩
 refine k (a.tmps.getD s undef) a w ⟨M,h1,h2,?_,?_⟩
 ·
  intro t q hq
  simp only [List.lookup] at hq
  by_cases ht:t=s
  · subst ht;simp only [beq_self_eq_true,Option.some.injEq] at hq;subst hq;exact ⟨rfl,h3 t p hs⟩
  · rw [show (t==s)=false by simpa using ht] at hq;exact h3 t q hq
 · rw [Tc (rs:=rs.set j (SR.c (f (a.tmps.getD s undef)))) (j:=i) (s:=s) (f:=g) (by rw [List.getElem?_set,if_neg hij];exact hR') a,Tc hR a];exact h4
end
section
variable {P:Program} {L:Lg P} {n:Fm} {fz:Nat} {E:Env} {M0:Av} {w0:World} {S:Nat→Prop} {rs:List Aa}
theorem St.HO (j:Nat) {new:Bool} {b:Nat} {T:TypeId} {ps qs:List Pr} (hi:rs[j]? =some (AB new b T ps)) (h:J9 ps qs) {a:Act} {w:World} (hs:St n E (Hp M0 w0 S rs) a w):St n E (Hp M0 w0 S (rs.set j (AB new b T qs))) a w:=by
 obtain ⟨M,h1,h2,h3,h4⟩:=hs
 have h4:An M0 w0 S rs M w:=h4
 obtain ⟨h5,cs,h6,h7,h8⟩:=(h4.hold _ (List.mem_of_getElem? hi)).1
 exact ⟨M,h1,h2,h3,h4.CI hi rfl rfl ⟨h5,cs,h6,h.hl h7,h8⟩⟩
theorem Tr.HO {Q:Exit→Act→World→Prop} {c:Code} (j:Nat) {new:Bool} {b:Nat} {T:TypeId} {ps:List Pr} (qs:List Pr) (hi:rs[j]? =some (AB new b T ps)) (h:J9 ps qs) (k:Tr L n E (Hp M0 w0 S (rs.set j (AB new b T qs))) c Q):Tr L n E (Hp M0 w0 S rs) c Q:=
 Tr.conv (fun _ _ hs=>hs.HO j hi h) k
theorem Fin.HO {Q:Exit→Act→World→Prop} {e:Exit} (j:Nat) {new:Bool} {b:Nat} {T:TypeId} {ps:List Pr} (qs:List Pr) (hi:rs[j]? =some (AB new b T ps)) (h:J9 ps qs) (k:Fin n E (Hp M0 w0 S (rs.set j (AB new b T qs))) Q e):Fin n E (Hp M0 w0 S rs) Q e:=
 Fin.conv (fun _ _ hs=>hs.HO j hi h) k
end
section
variable {P:Program} {L:Lg P} {n:Fm} {fz:Nat} {E:Env} {M0:Av} {w0:World} {S:Nat→Prop} {rs:List Aa}
abbrev MT (m b:Nat):Value:= .slice (some ⟨b,0,none⟩) m m
theorem BP {I:Bn} {o:Oper} {t e:TypeId} {x y:Operand} {k:IntKind} {i:Int} {len cap sz b off:Nat} (ho:o.op= .indexAddr t x y) (ht:P.underlying t=some (.slice e)) (hz:Af P e=some sz) (hx:VL E x (is (.slice (some ⟨b,off,none⟩) len cap))) (hy:VL E y (is (.int k i)))
  (h0:0≤i) (hl:i<len):AH P I o E (ptr b (off+i.toNat*sz)):=
 AH.same fun M w a he _=>by
  have h1:a.eval x=_:=hx.ev he (by simp [ho,Op.operands])
  have h5:a.eval y= .int k i:=hy.ev he (by simp [ho,Op.operands])
  refine ⟨_,?_,rfl⟩
  simp [execOp,ho,h1,h5,Instr.indexAt,asIntOf,run_underlying ht,BT hz,h0,hl,DW]
theorem Tr.perm {Q:Exit→Act→World→Prop} {c:Code} {rs':List Aa} (hp:rs.Perm rs') (k:Tr L n E (Hp M0 w0 S rs') c Q):Tr L n E (Hp M0 w0 S rs) c Q:=
 Tr.conv (fun _ _ ⟨M,h1,h2,h3,h4⟩=>⟨M,h1,h2,h3,An.perm hp h4⟩) k
theorem Fin.perm {Q:Exit→Act→World→Prop} {ex:Exit} {rs':List Aa} (hp:rs.Perm rs') (k:Fin n E (Hp M0 w0 S rs') Q ex):Fin n E (Hp M0 w0 S rs) Q ex:=
 Fin.conv (fun _ _ ⟨M,h1,h2,h3,h4⟩=>⟨M,h1,h2,h3,An.perm hp h4⟩) k
end
end Cp
namespace Go.Proofs.YtppdobdifkefcaaGreatDoor
open Go Cp
theorem mixed:Tryz.prog.follows .mixedOrders=true:=by kernel_rfl
theorem sz1:Af Tryz.prog 1=some 1:=by kernel_rfl
theorem z1:Ax Tryz.prog 1=some [.nilFunc]:=by kernel_rfl
theorem sz2:Af Tryz.prog 2=some 1:=by kernel_rfl
theorem z2:Ax Tryz.prog 2=some [.int .i64 0]:=by kernel_rfl
theorem C8:Af Tryz.prog 3=some 1:=by kernel_rfl
theorem C6:C9 Tryz.prog 3=true:=by kernel_rfl
theorem V9:BZ Tryz.prog 3=some 8:=by kernel_rfl
theorem zo3:([.int .i64 0]:List Value).all (·.oneCell')=true:=by kernel_rfl
theorem z3:Ax Tryz.prog 3=some [.int .i64 0]:=by kernel_rfl
theorem mD:C9 Tryz.prog 4=true:=by kernel_rfl
theorem z4:Ax Tryz.prog 4=some [.bool false]:=by kernel_rfl
theorem HP:Af Tryz.prog 5=some 1:=by kernel_rfl
theorem eV:C9 Tryz.prog 5=true:=by kernel_rfl
theorem Qm:BZ Tryz.prog 5=some 1:=by kernel_rfl
theorem zo5:([.int .u8 0]:List Value).all (·.oneCell')=true:=by kernel_rfl
theorem z5:Ax Tryz.prog 5=some [.int .u8 0]:=by kernel_rfl
theorem z6:Ax Tryz.prog 6=some [.int .u8 0]:=by kernel_rfl
theorem MU:Af Tryz.prog 9=some 1:=by kernel_rfl
theorem NW:C9 Tryz.prog 9=true:=by kernel_rfl
theorem by9:BZ Tryz.prog 9=some 16:=by kernel_rfl
theorem zo9:([.string (ByteArray.mk #[])]:List Value).all (·.oneCell')=true:=by kernel_rfl
theorem z9:Ax Tryz.prog 9=some [.string (ByteArray.mk #[])]:=by kernel_rfl
theorem z12:Ax Tryz.prog 12=some [.int .u64 0]:=by kernel_rfl
theorem z13:Ax Tryz.prog 13=some [.string (ByteArray.mk #[]),.int .u64 0]:=by kernel_rfl
theorem mE:Ax Tryz.prog 18=some [.pointer none]:=by kernel_rfl
theorem z20:Ax Tryz.prog 20=some [.nilIface]:=by kernel_rfl
theorem Ru:Af Tryz.prog 22=some 1:=by kernel_rfl
theorem Ee:C9 Tryz.prog 22=true:=by kernel_rfl
theorem z22:Ax Tryz.prog 22=some [.slice none 0 0]:=by kernel_rfl
theorem z24:Ax Tryz.prog 24=some [.nilFunc]:=by kernel_rfl
theorem eW:Af Tryz.prog 27=some 1:=by kernel_rfl
theorem NX:C9 Tryz.prog 27=true:=by kernel_rfl
theorem eX:Af Tryz.prog 28=some 1:=by kernel_rfl
theorem Qn:C9 Tryz.prog 28=true:=by kernel_rfl
theorem eY:Af Tryz.prog 29=some 1:=by kernel_rfl
theorem Td:C9 Tryz.prog 29=true:=by kernel_rfl
theorem JV:Af Tryz.prog 31=some 3:=by kernel_rfl
theorem Hh:Dp Tryz.prog 31=true:=by kernel_rfl
theorem ZZ:((List.replicate 3 (.slice none 0 0)):List Value).all (·.oneCell')=true:=by kernel_rfl
theorem z31:Ax Tryz.prog 31=some (List.replicate 3 (.slice none 0 0)):=by kernel_rfl
theorem G4:AK Tryz.prog 31 0=some 0:=by kernel_rfl
theorem Ih:AK Tryz.prog 31 1=some 1:=by kernel_rfl
theorem KG:AK Tryz.prog 31 2=some 2:=by kernel_rfl
theorem mF:Af Tryz.prog 33=some 1:=by kernel_rfl
theorem eZ:C9 Tryz.prog 33=true:=by kernel_rfl
theorem O9:Af Tryz.prog 35=some 3:=by kernel_rfl
theorem Lf:Dp Tryz.prog 35=true:=by kernel_rfl
theorem mG:∀ps,Tryz.prog.built 35 ps=Instr.fill (fun i=>(#[(0,1),(1,1),(2,1)]:Array (Nat×Nat))[i]?) ((List.replicate 3 (.slice none 0 0)):List Value).toArray ps:=by intro ps;kernel_rfl
theorem Wb:((List.replicate 3 (.slice none 0 0)):List Value).all (·.oneCell')=true:=by kernel_rfl
theorem z35:Ax Tryz.prog 35=some (List.replicate 3 (.slice none 0 0)):=by kernel_rfl
theorem Te:AK Tryz.prog 35 0=some 0:=by kernel_rfl
theorem Tf:AK Tryz.prog 35 1=some 1:=by kernel_rfl
theorem Za:AK Tryz.prog 35 2=some 2:=by kernel_rfl
theorem mH:Af Tryz.prog 37=some 1:=by kernel_rfl
theorem Qo:C9 Tryz.prog 37=true:=by kernel_rfl
theorem Qp:C9 Tryz.prog 39=true:=by kernel_rfl
theorem F6:Af Tryz.prog 42=some 3:=by kernel_rfl
theorem JG:Dp Tryz.prog 42=true:=by kernel_rfl
theorem Tg:∀ps,Tryz.prog.built 42 ps=Instr.fill (fun i=>(#[(0,1),(1,1),(2,1)]:Array (Nat×Nat))[i]?) ((List.replicate 3 (.slice none 0 0)):List Value).toArray ps:=by intro ps;kernel_rfl
theorem LM:((List.replicate 3 (.slice none 0 0)):List Value).all (·.oneCell')=true:=by kernel_rfl
theorem z42:Ax Tryz.prog 42=some (List.replicate 3 (.slice none 0 0)):=by kernel_rfl
theorem KH:AK Tryz.prog 42 0=some 0:=by kernel_rfl
theorem MV:AK Tryz.prog 42 1=some 1:=by kernel_rfl
theorem Ew:AK Tryz.prog 42 2=some 2:=by kernel_rfl
theorem CT:Af Tryz.prog 49=some 2:=by kernel_rfl
theorem Gl:Dp Tryz.prog 49=true:=by kernel_rfl
theorem O_:BZ Tryz.prog 49=some 16:=by kernel_rfl
theorem mI:∀ps,Tryz.prog.built 49 ps=Instr.fill (fun i=>(#[(0,1),(1,1)]:Array (Nat×Nat))[i]?) ((List.replicate 2 (.int .i64 0)):List Value).toArray ps:=by intro ps;kernel_rfl
theorem MW:((List.replicate 2 (.int .i64 0)):List Value).all (·.oneCell')=true:=by kernel_rfl
theorem z49:Ax Tryz.prog 49=some (List.replicate 2 (.int .i64 0)):=by kernel_rfl
theorem MX:AK Tryz.prog 49 0=some 0:=by kernel_rfl
theorem MY:AK Tryz.prog 49 1=some 1:=by kernel_rfl
theorem z51:Ax Tryz.prog 51=some [.nilFunc]:=by kernel_rfl
theorem Cf:Af Tryz.prog 57=some 2:=by kernel_rfl
theorem Bj:Dp Tryz.prog 57=true:=by kernel_rfl
theorem ec:∀ps,Tryz.prog.built 57 ps=Instr.fill (fun i=>(#[(0,1),(1,1)]:Array (Nat×Nat))[i]?) ((List.replicate 2 (.int .i64 0)):List Value).toArray ps:=by intro ps;kernel_rfl
theorem Ex:((List.replicate 2 (.int .i64 0)):List Value).all (·.oneCell')=true:=by kernel_rfl
theorem MZ:Ax Tryz.prog 57=some (List.replicate 2 (.int .i64 0)):=by kernel_rfl
theorem Zb:AK Tryz.prog 57 0=some 0:=by kernel_rfl
theorem Zc:AK Tryz.prog 57 1=some 1:=by kernel_rfl
theorem mJ:Af Tryz.prog 58=some 1:=by kernel_rfl
theorem ej:C9 Tryz.prog 58=true:=by kernel_rfl
theorem NY:Af Tryz.prog 60=some 4:=by kernel_rfl
theorem Qq:Dp Tryz.prog 60=true:=by kernel_rfl
theorem mK:∀ps,Tryz.prog.built 60 ps=Instr.fill (fun i=>(#[(0,2),(2,1),(3,1)]:Array (Nat×Nat))[i]?) ([.int .i64 0,.int .i64 0,.int .i64 0,.slice none 0 0]:List Value).toArray ps:=by intro ps;kernel_rfl
theorem Wc:([.int .i64 0,.int .i64 0,.int .i64 0,.slice none 0 0]:List Value).all (·.oneCell')=true:=by kernel_rfl
theorem eo:Ax Tryz.prog 60=some [.int .i64 0,.int .i64 0,.int .i64 0,.slice none 0 0]:=by kernel_rfl
theorem Zd:AK Tryz.prog 60 0=some 0:=by kernel_rfl
theorem Ze:AK Tryz.prog 60 1=some 2:=by kernel_rfl
theorem Th:AK Tryz.prog 60 2=some 3:=by kernel_rfl
theorem Dg:Af Tryz.prog 62=some 8:=by kernel_rfl
theorem Lh:Dp Tryz.prog 62=true:=by kernel_rfl
theorem PB:BZ Tryz.prog 62=some 80:=by kernel_rfl
theorem Rv:∀ps,Tryz.prog.built 62 ps=Instr.fill (fun i=>(#[(0,1),(1,1),(2,1),(3,1),(4,4)]:Array (Nat×Nat))[i]?) ([.int .i64 0,.int .i64 0,.int .i64 0,.int .i64 0,.int .i64 0,.int .i64 0,.int .i64 0,.slice none 0 0]:List Value).toArray ps:=by intro ps;kernel_rfl
theorem Ma:([.int .i64 0,.int .i64 0,.int .i64 0,.int .i64 0,.int .i64 0,.int .i64 0,.int .i64 0,.slice none 0 0]:List Value).all (·.oneCell')=true:=by kernel_rfl
theorem Om:Ax Tryz.prog 62=some [.int .i64 0,.int .i64 0,.int .i64 0,.int .i64 0,.int .i64 0,.int .i64 0,.int .i64 0,.slice none 0 0]:=by kernel_rfl
theorem Zf:AK Tryz.prog 62 0=some 0:=by kernel_rfl
theorem Zg:AK Tryz.prog 62 4=some 4:=by kernel_rfl
theorem mL:∀ps,Tryz.prog.built 66 ps=Instr.fill (fun i=>(#[(0,1),(1,1)]:Array (Nat×Nat))[i]?) ([.slice none 0 0,.int .i64 0]:List Value).toArray ps:=by intro ps;kernel_rfl
theorem mM:([.slice none 0 0,.int .i64 0]:List Value).all (·.oneCell')=true:=by kernel_rfl
theorem Zh:AK Tryz.prog 66 0=some 0:=by kernel_rfl
theorem Zi:AK Tryz.prog 66 1=some 1:=by kernel_rfl
theorem eu:Af Tryz.prog 67=some 1:=by kernel_rfl
theorem ew:C9 Tryz.prog 67=true:=by kernel_rfl
theorem mN:Af Tryz.prog 71=some 1:=by kernel_rfl
theorem ey:C9 Tryz.prog 71=true:=by kernel_rfl
theorem mO:([.nilFunc]:List Value).all (·.oneCell')=true:=by kernel_rfl
theorem z71:Ax Tryz.prog 71=some [.nilFunc]:=by kernel_rfl
theorem ez:Af Tryz.prog 72=some 1:=by kernel_rfl
theorem Yb:C9 Tryz.prog 72=true:=by kernel_rfl
theorem Hj:Af Tryz.prog 74=some 9:=by kernel_rfl
theorem NZ:Dp Tryz.prog 74=true:=by kernel_rfl
theorem e7:BZ Tryz.prog 74=some 144:=by kernel_rfl
theorem mP:∀ps,Tryz.prog.built 74 ps=Instr.fill (fun i=>(#[(0,1),(1,1),(2,1),(3,1),(4,1),(5,1),(6,1),(7,1),(8,1)]:Array (Nat×Nat))[i]?) ([.string (ByteArray.mk #[]),.int .i64 0,.int .i64 0,.slice none 0 0,.bool false,.slice none 0 0,.slice none 0 0,.slice none 0 0,.bool false]:List Value).toArray ps:=by intro ps;kernel_rfl
theorem Wd:([.string (ByteArray.mk #[]),.int .i64 0,.int .i64 0,.slice none 0 0,.bool false,.slice none 0 0,.slice none 0 0,.slice none 0 0,.bool false]:List Value).all (·.oneCell')=true:=by kernel_rfl
theorem Zj:Ax Tryz.prog 74=some [.string (ByteArray.mk #[]),.int .i64 0,.int .i64 0,.slice none 0 0,.bool false,.slice none 0 0,.slice none 0 0,.slice none 0 0,.bool false]:=by kernel_rfl
theorem Ti:AK Tryz.prog 74 0=some 0:=by kernel_rfl
theorem Zk:AK Tryz.prog 74 1=some 1:=by kernel_rfl
theorem PC:AK Tryz.prog 74 2=some 2:=by kernel_rfl
theorem KI:AK Tryz.prog 74 3=some 3:=by kernel_rfl
theorem Mb:AK Tryz.prog 74 5=some 5:=by kernel_rfl
theorem Zl:AK Tryz.prog 74 6=some 6:=by kernel_rfl
theorem Zm:AK Tryz.prog 74 7=some 7:=by kernel_rfl
theorem Mc:Af Tryz.prog 78=some 2:=by kernel_rfl
theorem e_:Dp Tryz.prog 78=true:=by kernel_rfl
theorem mQ:BZ Tryz.prog 78=some 16:=by kernel_rfl
theorem fA:∀ps,Tryz.prog.built 78 ps=Instr.fill (fun i=>(#[(0,1),(1,1)]:Array (Nat×Nat))[i]?) ((List.replicate 2 (.int .i64 0)):List Value).toArray ps:=by intro ps;kernel_rfl
theorem Zn:((List.replicate 2 (.int .i64 0)):List Value).all (·.oneCell')=true:=by kernel_rfl
theorem jz:Ax Tryz.prog 78=some (List.replicate 2 (.int .i64 0)):=by kernel_rfl
theorem Zo:AK Tryz.prog 78 0=some 0:=by kernel_rfl
theorem Zp:AK Tryz.prog 78 1=some 1:=by kernel_rfl
theorem mR:Af Tryz.prog 79=some 1:=by kernel_rfl
theorem fB:C9 Tryz.prog 79=true:=by kernel_rfl
theorem LN:Af Tryz.prog 81=some 5:=by kernel_rfl
theorem Tj:Dp Tryz.prog 81=true:=by kernel_rfl
theorem fC:BZ Tryz.prog 81=some 64:=by kernel_rfl
theorem mS:∀ps,Tryz.prog.built 81 ps=Instr.fill (fun i=>(#[(0,1),(1,1),(2,1),(3,1),(4,1)]:Array (Nat×Nat))[i]?) ([.string (ByteArray.mk #[]),.int .i64 0,.int .i64 0,.slice none 0 0,.int .i64 0]:List Value).toArray ps:=by intro ps;kernel_rfl
theorem Zq:([.string (ByteArray.mk #[]),.int .i64 0,.int .i64 0,.slice none 0 0,.int .i64 0]:List Value).all (·.oneCell')=true:=by kernel_rfl
theorem cY:Ax Tryz.prog 81=some [.string (ByteArray.mk #[]),.int .i64 0,.int .i64 0,.slice none 0 0,.int .i64 0]:=by kernel_rfl
theorem Zr:AK Tryz.prog 81 0=some 0:=by kernel_rfl
theorem Zs:AK Tryz.prog 81 1=some 1:=by kernel_rfl
theorem Zt:AK Tryz.prog 81 2=some 2:=by kernel_rfl
theorem Tk:AK Tryz.prog 81 3=some 3:=by kernel_rfl
theorem Zu:AK Tryz.prog 81 4=some 4:=by kernel_rfl
theorem mT:∀ps,Tryz.prog.built 85 ps=Instr.fill (fun i=>(#[(0,1),(1,1)]:Array (Nat×Nat))[i]?) ((List.replicate 2 (.int .i64 0)):List Value).toArray ps:=by intro ps;kernel_rfl
theorem mU:((List.replicate 2 (.int .i64 0)):List Value).all (·.oneCell')=true:=by kernel_rfl
theorem Zv:AK Tryz.prog 85 0=some 0:=by kernel_rfl
theorem Zw:AK Tryz.prog 85 1=some 1:=by kernel_rfl
theorem KJ:Af Tryz.prog 87=some 3:=by kernel_rfl
theorem Tm:Dp Tryz.prog 87=true:=by kernel_rfl
theorem mV:BZ Tryz.prog 87=some 40:=by kernel_rfl
theorem mW:∀ps,Tryz.prog.built 87 ps=Instr.fill (fun i=>(#[(0,2),(2,1)]:Array (Nat×Nat))[i]?) ([.int .i64 0,.int .i64 0,.slice none 0 0]:List Value).toArray ps:=by intro ps;kernel_rfl
theorem Zx:([.int .i64 0,.int .i64 0,.slice none 0 0]:List Value).all (·.oneCell')=true:=by kernel_rfl
theorem z87:Ax Tryz.prog 87=some [.int .i64 0,.int .i64 0,.slice none 0 0]:=by kernel_rfl
theorem Zy:AK Tryz.prog 87 0=some 0:=by kernel_rfl
theorem Zz:AK Tryz.prog 87 1=some 2:=by kernel_rfl
theorem Yc:Af Tryz.prog 105=some 2:=by kernel_rfl
theorem Yd:∀ps,Tryz.prog.built 105 ps=Instr.fill (fun i=>(#[(0,1),(1,1)]:Array (Nat×Nat))[i]?) ((List.replicate 2 (.int .i64 0)):List Value).toArray ps:=by intro ps;kernel_rfl
theorem Ye:((List.replicate 2 (.int .i64 0)):List Value).all (·.oneCell')=true:=by kernel_rfl
theorem We:AK Tryz.prog 105 0=some 0:=by kernel_rfl
theorem Wf:AK Tryz.prog 105 1=some 1:=by kernel_rfl
theorem Dj:Af Tryz.prog 107=some 15:=by kernel_rfl
theorem FQ:Dp Tryz.prog 107=true:=by kernel_rfl
theorem fD:BZ Tryz.prog 107=some 152:=by kernel_rfl
theorem fE:∀ps,Tryz.prog.built 107 ps=Instr.fill (fun i=>(#[(0,1),(1,1),(2,1),(3,2),(5,1),(6,2),(8,1),(9,1),(10,1),(11,1),(12,1),(13,2)]:Array (Nat×Nat))[i]?) ([.int .i64 0,.string (ByteArray.mk #[]),.string (ByteArray.mk #[]),.int .i64 0,.int .i64 0,.int .i64 0,.int .i64 0,.int .i64 0,.int .i64 0,.int .i64 0,.bool false,.int .i64 0,.slice none 0 0,.int .i64 0,.int .i64 0]:List Value).toArray ps:=by intro ps;kernel_rfl
theorem KK:([.int .i64 0,.string (ByteArray.mk #[]),.string (ByteArray.mk #[]),.int .i64 0,.int .i64 0,.int .i64 0,.int .i64 0,.int .i64 0,.int .i64 0,.int .i64 0,.bool false,.int .i64 0,.slice none 0 0,.int .i64 0,.int .i64 0]:List Value).all (·.oneCell')=true:=by kernel_rfl
theorem z107:Ax Tryz.prog 107=some [.int .i64 0,.string (ByteArray.mk #[]),.string (ByteArray.mk #[]),.int .i64 0,.int .i64 0,.int .i64 0,.int .i64 0,.int .i64 0,.int .i64 0,.int .i64 0,.bool false,.int .i64 0,.slice none 0 0,.int .i64 0,.int .i64 0]:=by kernel_rfl
theorem Wg:AK Tryz.prog 107 0=some 0:=by kernel_rfl
theorem Wh:AK Tryz.prog 107 1=some 1:=by kernel_rfl
theorem Wi:AK Tryz.prog 107 2=some 2:=by kernel_rfl
theorem Wj:AK Tryz.prog 107 3=some 3:=by kernel_rfl
theorem Wk:AK Tryz.prog 107 4=some 5:=by kernel_rfl
theorem Wl:AK Tryz.prog 107 5=some 6:=by kernel_rfl
theorem Wm:AK Tryz.prog 107 6=some 8:=by kernel_rfl
theorem Wn:AK Tryz.prog 107 7=some 9:=by kernel_rfl
theorem Wo:AK Tryz.prog 107 8=some 10:=by kernel_rfl
theorem Wp:AK Tryz.prog 107 9=some 11:=by kernel_rfl
theorem Na:AK Tryz.prog 107 10=some 12:=by kernel_rfl
theorem KL:AK Tryz.prog 107 11=some 13:=by kernel_rfl
theorem KM:Af Tryz.prog 112=some 3:=by kernel_rfl
theorem Z0:Dp Tryz.prog 112=true:=by kernel_rfl
theorem fF:BZ Tryz.prog 112=some 24:=by kernel_rfl
theorem fG:∀ps,Tryz.prog.built 112 ps=Instr.fill (fun i=>(#[(0,2),(2,1)]:Array (Nat×Nat))[i]?) ((List.replicate 3 (.int .i64 0)):List Value).toArray ps:=by intro ps;kernel_rfl
theorem Tn:((List.replicate 3 (.int .i64 0)):List Value).all (·.oneCell')=true:=by kernel_rfl
theorem Z1:Ax Tryz.prog 112=some (List.replicate 3 (.int .i64 0)):=by kernel_rfl
theorem Wq:AK Tryz.prog 112 0=some 0:=by kernel_rfl
theorem Wr:AK Tryz.prog 112 1=some 2:=by kernel_rfl
theorem fH:Af Tryz.prog 114=some 1:=by kernel_rfl
theorem G5:C9 Tryz.prog 114=true:=by kernel_rfl
theorem fI:([.pointer none]:List Value).all (·.oneCell')=true:=by kernel_rfl
theorem mX:Ax Tryz.prog 114=some [.pointer none]:=by kernel_rfl
theorem D8:Af Tryz.prog 118=some 1:=by kernel_rfl
theorem Ey:C9 Tryz.prog 118=true:=by kernel_rfl
theorem Yf:BZ Tryz.prog 118=some 4:=by kernel_rfl
theorem fJ:Ax Tryz.prog 118=some [.int .u32 0]:=by kernel_rfl
theorem fK:Af Tryz.prog 123=some 1:=by kernel_rfl
theorem Z2:C9 Tryz.prog 123=true:=by kernel_rfl
theorem fL:([.pointer none]:List Value).all (·.oneCell')=true:=by kernel_rfl
theorem mY:Ax Tryz.prog 123=some [.pointer none]:=by kernel_rfl
theorem Qr:Af Tryz.prog 128=some 8:=by kernel_rfl
theorem fM:Af Tryz.prog 138=some 1:=by kernel_rfl
theorem To:C9 Tryz.prog 138=true:=by kernel_rfl
theorem G6:C9 Tryz.prog 148=true:=by kernel_rfl
theorem fN:∀ps,Tryz.prog.built 150 ps=Instr.fill (fun i=>(#[(0,1),(1,1),(2,1)]:Array (Nat×Nat))[i]?) ([.int .i64 0,.slice none 0 0,.slice none 0 0]:List Value).toArray ps:=by intro ps;kernel_rfl
theorem fO:([.int .i64 0,.slice none 0 0,.slice none 0 0]:List Value).all (·.oneCell')=true:=by kernel_rfl
theorem Ws:AK Tryz.prog 150 0=some 0:=by kernel_rfl
theorem GV:AK Tryz.prog 150 1=some 1:=by kernel_rfl
theorem Wt:AK Tryz.prog 150 2=some 2:=by kernel_rfl
theorem JH:Af Tryz.prog 157=some 12:=by kernel_rfl
theorem Md:Dp Tryz.prog 157=true:=by kernel_rfl
theorem Yg:∀ps,Tryz.prog.built 157 ps=Instr.fill (fun i=>(#[(0,1),(1,1),(2,2),(4,2),(6,2),(8,2),(10,1),(11,1)]:Array (Nat×Nat))[i]?) ([.int .i64 0,.string (ByteArray.mk #[]),.int .i64 0,.int .i64 0,.int .i64 0,.int .i64 0,.int .i64 0,.int .i64 0,.int .i64 0,.int .i64 0,.int .i64 0,.int .i64 0]:List Value).toArray ps:=by intro ps;kernel_rfl
theorem Qs:([.int .i64 0,.string (ByteArray.mk #[]),.int .i64 0,.int .i64 0,.int .i64 0,.int .i64 0,.int .i64 0,.int .i64 0,.int .i64 0,.int .i64 0,.int .i64 0,.int .i64 0]:List Value).all (·.oneCell')=true:=by kernel_rfl
theorem z157:Ax Tryz.prog 157=some [.int .i64 0,.string (ByteArray.mk #[]),.int .i64 0,.int .i64 0,.int .i64 0,.int .i64 0,.int .i64 0,.int .i64 0,.int .i64 0,.int .i64 0,.int .i64 0,.int .i64 0]:=by kernel_rfl
theorem Wu:AK Tryz.prog 157 0=some 0:=by kernel_rfl
theorem fP:Af Tryz.prog 163=some 1:=by kernel_rfl
theorem Me:C9 Tryz.prog 163=true:=by kernel_rfl
theorem Bb:Af Tryz.prog 165=some 4:=by kernel_rfl
theorem Bu:Dp Tryz.prog 165=true:=by kernel_rfl
theorem Yh:BZ Tryz.prog 165=some 64:=by kernel_rfl
theorem Tp:∀ps,Tryz.prog.built 165 ps=Instr.fill (fun i=>(#[(0,1),(1,1),(2,1),(3,1)]:Array (Nat×Nat))[i]?) ([.int .i64 0,.slice none 0 0,.bool false,.slice none 0 0]:List Value).toArray ps:=by intro ps;kernel_rfl
theorem Gm:([.int .i64 0,.slice none 0 0,.bool false,.slice none 0 0]:List Value).all (·.oneCell')=true:=by kernel_rfl
theorem Ij:Ax Tryz.prog 165=some [.int .i64 0,.slice none 0 0,.bool false,.slice none 0 0]:=by kernel_rfl
theorem Wv:AK Tryz.prog 165 0=some 0:=by kernel_rfl
theorem Mf:AK Tryz.prog 165 1=some 1:=by kernel_rfl
theorem Ww:AK Tryz.prog 165 2=some 2:=by kernel_rfl
theorem Hl:AK Tryz.prog 165 3=some 3:=by kernel_rfl
theorem fQ:∀ps,Tryz.prog.built 176 ps=Instr.fill (fun i=>some (i*8,8)) ((List.replicate 256 (.int .i64 0)):List Value).toArray ps:=by intro ps;kernel_rfl
theorem fR:((List.replicate 256 (.int .i64 0)):List Value).all (·.oneCell')=true:=by kernel_rfl
theorem Yi:Af Tryz.prog 183=some 2:=by kernel_rfl
theorem fS:∀ps,Tryz.prog.built 183 ps=Instr.fill (fun i=>(#[(0,1),(1,1)]:Array (Nat×Nat))[i]?) ([.string (ByteArray.mk #[]),.int .i64 0]:List Value).toArray ps:=by intro ps;kernel_rfl
theorem Yj:([.string (ByteArray.mk #[]),.int .i64 0]:List Value).all (·.oneCell')=true:=by kernel_rfl
theorem z183:Ax Tryz.prog 183=some [.string (ByteArray.mk #[]),.int .i64 0]:=by kernel_rfl
theorem Wx:AK Tryz.prog 183 1=some 1:=by kernel_rfl
theorem Li:Af Tryz.prog 203=some 5:=by kernel_rfl
theorem Mg:Dp Tryz.prog 203=true:=by kernel_rfl
theorem Cl:∀ps,Tryz.prog.built 203 ps=Instr.fill (fun i=>(#[(0,1),(1,1),(2,1),(3,1),(4,1)]:Array (Nat×Nat))[i]?) ([.string (ByteArray.mk #[]),.int .i64 0,.int .i64 0,.slice none 0 0,.slice none 0 0]:List Value).toArray ps:=by intro ps;kernel_rfl
theorem CJ:([.string (ByteArray.mk #[]),.int .i64 0,.int .i64 0,.slice none 0 0,.slice none 0 0]:List Value).all (·.oneCell')=true:=by kernel_rfl
theorem z203:Ax Tryz.prog 203=some [.string (ByteArray.mk #[]),.int .i64 0,.int .i64 0,.slice none 0 0,.slice none 0 0]:=by kernel_rfl
theorem Wy:AK Tryz.prog 203 1=some 1:=by kernel_rfl
theorem Wz:AK Tryz.prog 203 2=some 2:=by kernel_rfl
theorem W0:AK Tryz.prog 203 3=some 3:=by kernel_rfl
theorem W4:AK Tryz.prog 203 4=some 4:=by kernel_rfl
theorem Yk:Af Tryz.prog 207=some 115:=by kernel_rfl
theorem Z3:Dp Tryz.prog 207=true:=by kernel_rfl
theorem fT:∀ps,Tryz.prog.built 207 ps=Instr.fill (fun i=>some (i*5,5)) ([.string (ByteArray.mk #[]),.int .i64 0,.int .i64 0,.slice none 0 0,.slice none 0 0,.string (ByteArray.mk #[]),.int .i64 0,.int .i64 0,.slice none 0 0,.slice none 0 0,.string (ByteArray.mk #[]),.int .i64 0,.int .i64 0,.slice none 0 0,.slice none 0 0,.string (ByteArray.mk #[]),.int .i64 0,.int .i64 0,.slice none 0 0,.slice none 0 0,.string (ByteArray.mk #[]),.int .i64 0,.int .i64 0,.slice none 0 0,.slice none 0 0,.string (ByteArray.mk #[]),.int .i64 0,.int .i64 0,.slice none 0 0,.slice none 0 0,.string (ByteArray.mk #[]),.int .i64 0,.int .i64 0,.slice none 0 0,.slice none 0 0,.string (ByteArray.mk #[]),.int .i64 0,.int .i64 0,.slice none 0 0,.slice none 0 0,.string (ByteArray.mk #[]),.int .i64 0,.int .i64 0,.slice none 0 0,.slice none 0 0,.string (ByteArray.mk #[]),.int .i64 0,.int .i64 0,.slice none 0 0,.slice none 0 0,.string (ByteArray.mk #[]),.int .i64 0,.int .i64 0,.slice none 0 0,.slice none 0 0,.string (ByteArray.mk #[]),.int .i64 0,.int .i64 0,.slice none 0 0,.slice none 0 0,.string (ByteArray.mk #[]),.int .i64 0,.int .i64 0,.slice none 0 0,.slice none 0 0,.string (ByteArray.mk #[]),.int .i64 0,.int .i64 0,.slice none 0 0,.slice none 0 0,.string (ByteArray.mk #[]),.int .i64 0,.int .i64 0,.slice none 0 0,.slice none 0 0,.string (ByteArray.mk #[]),.int .i64 0,.int .i64 0,.slice none 0 0,.slice none 0 0,.string (ByteArray.mk #[]),.int .i64 0,.int .i64 0,.slice none 0 0,.slice none 0 0,.string (ByteArray.mk #[]),.int .i64 0,.int .i64 0,.slice none 0 0,.slice none 0 0,.string (ByteArray.mk #[]),.int .i64 0,.int .i64 0,.slice none 0 0,.slice none 0 0,.string (ByteArray.mk #[]),.int .i64 0,.int .i64 0,.slice none 0 0,.slice none 0 0,.string (ByteArray.mk #[]),.int .i64 0,.int .i64 0,.slice none 0 0,.slice none 0 0,.string (ByteArray.mk #[]),.int .i64 0,.int .i64 0,.slice none 0 0,.slice none 0 0,.string (ByteArray.mk #[]),.int .i64 0,.int .i64 0,.slice none 0 0,.slice none 0 0]:List Value).toArray ps:=by intro ps;kernel_rfl
theorem Yl:([.string (ByteArray.mk #[]),.int .i64 0,.int .i64 0,.slice none 0 0,.slice none 0 0,.string (ByteArray.mk #[]),.int .i64 0,.int .i64 0,.slice none 0 0,.slice none 0 0,.string (ByteArray.mk #[]),.int .i64 0,.int .i64 0,.slice none 0 0,.slice none 0 0,.string (ByteArray.mk #[]),.int .i64 0,.int .i64 0,.slice none 0 0,.slice none 0 0,.string (ByteArray.mk #[]),.int .i64 0,.int .i64 0,.slice none 0 0,.slice none 0 0,.string (ByteArray.mk #[]),.int .i64 0,.int .i64 0,.slice none 0 0,.slice none 0 0,.string (ByteArray.mk #[]),.int .i64 0,.int .i64 0,.slice none 0 0,.slice none 0 0,.string (ByteArray.mk #[]),.int .i64 0,.int .i64 0,.slice none 0 0,.slice none 0 0,.string (ByteArray.mk #[]),.int .i64 0,.int .i64 0,.slice none 0 0,.slice none 0 0,.string (ByteArray.mk #[]),.int .i64 0,.int .i64 0,.slice none 0 0,.slice none 0 0,.string (ByteArray.mk #[]),.int .i64 0,.int .i64 0,.slice none 0 0,.slice none 0 0,.string (ByteArray.mk #[]),.int .i64 0,.int .i64 0,.slice none 0 0,.slice none 0 0,.string (ByteArray.mk #[]),.int .i64 0,.int .i64 0,.slice none 0 0,.slice none 0 0,.string (ByteArray.mk #[]),.int .i64 0,.int .i64 0,.slice none 0 0,.slice none 0 0,.string (ByteArray.mk #[]),.int .i64 0,.int .i64 0,.slice none 0 0,.slice none 0 0,.string (ByteArray.mk #[]),.int .i64 0,.int .i64 0,.slice none 0 0,.slice none 0 0,.string (ByteArray.mk #[]),.int .i64 0,.int .i64 0,.slice none 0 0,.slice none 0 0,.string (ByteArray.mk #[]),.int .i64 0,.int .i64 0,.slice none 0 0,.slice none 0 0,.string (ByteArray.mk #[]),.int .i64 0,.int .i64 0,.slice none 0 0,.slice none 0 0,.string (ByteArray.mk #[]),.int .i64 0,.int .i64 0,.slice none 0 0,.slice none 0 0,.string (ByteArray.mk #[]),.int .i64 0,.int .i64 0,.slice none 0 0,.slice none 0 0,.string (ByteArray.mk #[]),.int .i64 0,.int .i64 0,.slice none 0 0,.slice none 0 0,.string (ByteArray.mk #[]),.int .i64 0,.int .i64 0,.slice none 0 0,.slice none 0 0]:List Value).all (·.oneCell')=true:=by kernel_rfl
theorem mZ:Ax Tryz.prog 207=some [.string (ByteArray.mk #[]),.int .i64 0,.int .i64 0,.slice none 0 0,.slice none 0 0,.string (ByteArray.mk #[]),.int .i64 0,.int .i64 0,.slice none 0 0,.slice none 0 0,.string (ByteArray.mk #[]),.int .i64 0,.int .i64 0,.slice none 0 0,.slice none 0 0,.string (ByteArray.mk #[]),.int .i64 0,.int .i64 0,.slice none 0 0,.slice none 0 0,.string (ByteArray.mk #[]),.int .i64 0,.int .i64 0,.slice none 0 0,.slice none 0 0,.string (ByteArray.mk #[]),.int .i64 0,.int .i64 0,.slice none 0 0,.slice none 0 0,.string (ByteArray.mk #[]),.int .i64 0,.int .i64 0,.slice none 0 0,.slice none 0 0,.string (ByteArray.mk #[]),.int .i64 0,.int .i64 0,.slice none 0 0,.slice none 0 0,.string (ByteArray.mk #[]),.int .i64 0,.int .i64 0,.slice none 0 0,.slice none 0 0,.string (ByteArray.mk #[]),.int .i64 0,.int .i64 0,.slice none 0 0,.slice none 0 0,.string (ByteArray.mk #[]),.int .i64 0,.int .i64 0,.slice none 0 0,.slice none 0 0,.string (ByteArray.mk #[]),.int .i64 0,.int .i64 0,.slice none 0 0,.slice none 0 0,.string (ByteArray.mk #[]),.int .i64 0,.int .i64 0,.slice none 0 0,.slice none 0 0,.string (ByteArray.mk #[]),.int .i64 0,.int .i64 0,.slice none 0 0,.slice none 0 0,.string (ByteArray.mk #[]),.int .i64 0,.int .i64 0,.slice none 0 0,.slice none 0 0,.string (ByteArray.mk #[]),.int .i64 0,.int .i64 0,.slice none 0 0,.slice none 0 0,.string (ByteArray.mk #[]),.int .i64 0,.int .i64 0,.slice none 0 0,.slice none 0 0,.string (ByteArray.mk #[]),.int .i64 0,.int .i64 0,.slice none 0 0,.slice none 0 0,.string (ByteArray.mk #[]),.int .i64 0,.int .i64 0,.slice none 0 0,.slice none 0 0,.string (ByteArray.mk #[]),.int .i64 0,.int .i64 0,.slice none 0 0,.slice none 0 0,.string (ByteArray.mk #[]),.int .i64 0,.int .i64 0,.slice none 0 0,.slice none 0 0,.string (ByteArray.mk #[]),.int .i64 0,.int .i64 0,.slice none 0 0,.slice none 0 0,.string (ByteArray.mk #[]),.int .i64 0,.int .i64 0,.slice none 0 0,.slice none 0 0]:=by kernel_rfl
theorem Ym:Af Tryz.prog 211=some 2:=by kernel_rfl
theorem Z4:Dp Tryz.prog 211=true:=by kernel_rfl
theorem fU:∀ps,Tryz.prog.built 211 ps=Instr.fill (fun i=>some (i*1,1)) ((List.replicate 2 (.int .i64 0)):List Value).toArray ps:=by intro ps;kernel_rfl
theorem Yn:((List.replicate 2 (.int .i64 0)):List Value).all (·.oneCell')=true:=by kernel_rfl
theorem me:Ax Tryz.prog 211=some (List.replicate 2 (.int .i64 0)):=by kernel_rfl
theorem fV:∀ps,Tryz.prog.built 212 ps=Instr.fill (fun i=>some (i*2,2)) ((List.replicate 10 (.int .i64 0)):List Value).toArray ps:=by intro ps;kernel_rfl
theorem fW:((List.replicate 10 (.int .i64 0)):List Value).all (·.oneCell')=true:=by kernel_rfl
end Go.Proofs.YtppdobdifkefcaaGreatDoor
namespace Cp
open Go Go.RowKit Go.Great
section
variable {P:Program} {L:Lg P} {n:Fm} {fz:Nat} {E:Env} {M0:Av} {w0:World} {S:Nat→Prop} {rs:List Aa} {o:Oper}
def lens (m:Nat):Pr where
 h _ _ v:=∃a c,v= .slice a m c
 st _M _w _M' _w' _v _ h:=h
instance fX (m:Nat):One (lens m):=⟨by rintro M w v ⟨a,c,rfl⟩;exact ⟨rfl,rfl⟩⟩
def CC (e:TypeId) (sz:Nat) (rows:List (List Pr)) (v:Value):Aa where
 blk:=match v with| .slice (some a) _ _=>some a.block|_=>none
 new:=true
 h M w:=∃(b cap:Nat) (spare:List Value),v= .slice (some ⟨b,0,none⟩) rows.length cap∧rows.length≤cap∧cap≤maxLen∧spare.length=(cap-rows.length)*sz∧(AB true b e (rows.flatten++spare.map is)).h M w
 st M w M' w' he hk h:=by
  obtain ⟨b,cap,spare,rfl,h1,h2,h3,h4⟩:=h
  exact ⟨b,cap,spare,rfl,h1,h2,h3,(AB true b e _).st _ _ _ _ he hk h4⟩
theorem FR {sz:Nat}:∀{rows:List (List Pr)} {i j:Nat} {row:List Pr},(∀r∈rows,r.length=sz)→rows[i]? =some row→j<sz→rows.flatten[i*sz+j]? =row[j]?
 |[],_,_,_,_,h,_=>by simp at h
 |a::l,0,j,row,hl,h,hj=>by
  simp at h;subst h
  have:=hl a (by simp)
  rw [List.flatten_cons,Nat.zero_mul,Nat.zero_add,List.getElem?_append_left (by omega)]
 |a::l,i+1,j,row,hl,h,hj=>by
  have h1:=hl a (by simp)
  rw [List.flatten_cons,Nat.succ_mul,List.getElem?_append_right (by omega),h1,show i*sz+sz+j-sz=i*sz+j by omega]
  exact FR (fun r hr=>hl r (List.mem_cons_of_mem _ hr)) (by simpa using h) hj
theorem Bv {sz:Nat}:∀{rows:List (List Pr)},(∀r∈rows,r.length=sz)→rows.flatten.length=rows.length*sz
 |[],_=>by simp
 |a::l,h=>by
  rw [List.flatten_cons,List.length_append,Bv (fun r hr=>h r (List.mem_cons_of_mem _ hr)),h a (by simp),List.length_cons,Nat.succ_mul];omega
theorem Nc {M:Av} {w:World}:∀{ps:List Pr} {vs:List Value},vs.length=ps.length→(∀(k:Nat) p,ps[k]? =some p→∃u,vs[k]? =some u∧p.h M w u)→HL M w ps vs
 |[],[],_,_=>trivial
 |[],_::_,h,_=>by simp at h
 |_::_,[],h,_=>by simp at h
 |p::ps,v::vs,h,hk=>by
  refine ⟨?_,Nc (by simpa using h) fun k q hq=>by simpa using hk (k+1) q (by simpa using hq)⟩
  obtain ⟨u,hu,hp⟩:=hk 0 p rfl
  simp at hu;subst hu;exact hp
theorem Flat.hl {M:Av} {w:World} {sz:Nat} {rows:List (List Pr)} {news:List Value} (hsz:0<sz) (h:Flat M w sz rows news):HL M w rows.flatten news:=by
 have hl:∀r∈rows,r.length=sz:=fun r hr=>by obtain ⟨i,hi⟩:=List.mem_iff_getElem?.1 hr;exact (h.2.2 i r hi).1
 refine Nc (by rw [h.1,Bv hl]) fun k p hk=> ?_
 have Ol:k<rows.length*sz:=by rw [←Bv hl];rcases Nat.lt_or_ge k rows.flatten.length with h|h;exact h;rw [List.getElem?_eq_none h] at hk;cases hk
 have hi:k/sz<rows.length:=Nat.div_lt_of_lt_mul (by rw [Nat.mul_comm];exact Ol)
 have hj:k % sz<sz:=Nat.mod_lt _ hsz
 have he:k/sz*sz+k % sz=k:=by rw [Nat.mul_comm];exact Nat.div_add_mod k sz
 have hr:=List.getElem?_eq_getElem hi
 rw [←he,FR hl hr hj] at hk
 obtain ⟨u,hu,hp⟩:=(h.2.2 _ _ hr).2 _ p hk
 exact ⟨u,by rw [←he];exact hu,hp⟩
theorem HL.flat {M:Av} {w:World} {sz:Nat} {rows:List (List Pr)} {qs:List Pr} {cs:List Value} (hl:∀r∈rows,r.length=sz) (h:HL M w (rows.flatten++qs) cs) (h1:∀c∈cs,c.oneCell'=true):Flat M w sz rows (cs.take (rows.length*sz)):=by
 have hfl:=Bv hl
 have hlen:=h.length
 refine ⟨by rw [List.length_take,hlen,List.length_append,hfl];omega,fun u hu=>h1 u (List.mem_of_mem_take hu),fun i row hi=> ?_⟩
 have hrl:=hl row (List.mem_of_getElem? hi)
 refine ⟨hrl,fun j p hp=> ?_⟩
 have hjl:j<sz:=by rw [←hrl];rcases Nat.lt_or_ge j row.length with h|h;exact h;rw [List.getElem?_eq_none h] at hp;cases hp
 have Eo:i<rows.length:=by rcases Nat.lt_or_ge i rows.length with h|h;exact h;rw [List.getElem?_eq_none h] at hi;cases hi
 have hlt:i*sz+j<rows.length*sz:=by have:(i+1)*sz≤rows.length*sz:=Nat.mul_le_mul_right sz Eo;rw [Nat.add_mul] at this;omega
 obtain ⟨u,hu,hh⟩:=h.at_ (i*sz+j) p (by rw [List.getElem?_append_left (by rw [hfl];exact hlt),FR hl hi hjl];exact hp)
 exact ⟨u,by rw [List.getElem?_take,if_pos hlt];exact hu,hh⟩
theorem Ez {zs:List Value} {z:Array Value} {k:Nat} (hz:z.toList=zs) (h1:zs.all (·.oneCell')=true):∀c∈(Builtin.zeroCells z k).toList,c.oneCell'=true:=by
 intro c hc
 simp only [Builtin.zeroCells,Array.toList_map,Array.toList_range,List.mem_map,List.mem_range] at hc
 obtain ⟨i,hi,rfl⟩:=hc
 have hpos:0<z.size:=by rcases Nat.eq_zero_or_pos z.size with h|h;rw [h] at hi;simp at hi;exact h
 have hm:i % z.size<z.size:=Nat.mod_lt _ hpos
 rw [getElem!_pos z _ hm]
 exact List.all_eq_true.1 h1 _ (by rw [←hz];simp)
theorem W6 {M:Av} {w:World} {t ty e:TypeId} {sz bytes:Nat} {zs:List Value} {rows:List (List Pr)} {u:Value} {j:Nat} (ht:P.underlying t=some (.slice e)) (hz:Af P e=some sz) (hby:BZ P e=some bytes) (DO:Ax P e=some zs) (hzl:zs.length=sz) (hone:zs.all (·.oneCell')=true) (hsz:0<sz)
  (h:An M0 w0 S rs M w) (hj:rs[j]? =some BA) (hu:(slice sz rows).h M w u) (hpos:0<rows.length) (Er:rows.length≤maxLen) (hfit:rows.length*bytes≤140737488355328):
  ∃v' w' M',(Builtin.append_ #[t,t] ty #[.slice none 0 0,u]).run P w= .ok v' w'∧(lens rows.length).h M' w' v'∧Ext M w M' w'∧An M0 w0 S (rs.set j (CC e sz rows v')) M' w':=by
 unfold Af at hz
 unfold BZ at hby
 unfold Ax at DO
 cases hi:P.info? e with
 |none=>rw [hi] at hz;cases hz
 |some i=>
  rw [hi] at hz hby DO
  simp only [Option.map_some,Option.some.injEq,Option.map_eq_some_iff] at hz hby DO
  obtain ⟨z,Qf,DO⟩:=DO
  have TN:z.cells.size=sz:=by rw [←hzl,←DO];simp
  obtain ⟨A',c',rfl,ZQ,O0,V7,ER⟩:=hu
  have MK:(slice sz rows).h M w (.slice A' rows.length c'):=⟨A',c',rfl,ZQ,O0,V7,ER⟩
  obtain ⟨LZ,rfl⟩:∃LZ,A'=some LZ:=by
   obtain ⟨_,b,hb,_⟩:=ER 0 _ (List.getElem?_eq_getElem hpos)
   exact ⟨b,hb⟩
  obtain ⟨news,hfl,hcell⟩:=Dt hsz MK
  have hrun:=run_append_nil (P:=P) w t ty e i z ht hi Qf LZ rows.length c' news (by rw [hz];exact hfl.1) (fun k u hk=>(hcell k u hk).1) hpos (by unfold maxLen at Er;omega) (by rw [hby];omega)
  generalize hcap:grownCap w rows.length 0 e=cap at hrun
  have hge:rows.length≤cap:=by rw [←hcap];exact grownCap_ge _ _ _ _
  have hle:cap≤maxLen:=by rw [←hcap];exact grownCap_le_maxLen _ _ _ _ Er
  generalize LI:Builtin.zeroCells z.cells (cap-rows.length)=zc at hrun
  have hzs:zc.size=(cap-rows.length)*sz:=by rw [←LI,size_zeroCells,TN]
  have fY:∀c∈zc.toList,c.oneCell'=true:=by rw [←LI];exact Ez DO hone
  have hb:Below w.heap.size w (w.drew.alloc (.cells (news.toArray++zc) e)):=((Below.refl _ _).drew).alloc (Nat.le_refl _) _
  have h2:=Ext.below (M:=M) hb
  have Co:Ext M w (fun b o=>M b o∨b=w.heap.size) (w.drew.alloc (.cells (news.toArray++zc) e)):=by
   refine ⟨h2.size,fun a v hc hm=>⟨fun hx=> ?_,(h2.keep a v hc hm).2⟩,fun b o ho hp hm=>⟨fun hx=> ?_,(h2.obj b o ho hp hm).2⟩⟩
   ·
    rcases hx with hx|hx
    · exact hm hx
    · have:=CN hc;omega
   ·
    rcases hx with hx|hx
    · exact hm hx
    · subst hx;simp at ho
  have hs1:(w.drew.alloc (.cells (news.toArray++zc) e)).heap.size=w.heap.size+1:=by simp
  refine ⟨_,_,fun b o=>M b o∨b=w.heap.size,hrun,⟨_,_,rfl⟩,Co,?_⟩
  refine h.replace hj Co hb.os hb.tape hb.output (fun k hk _=>hb.block k hk) rfl (fun b o hm _=> .inl hm) (fun b o hx=> ?_) ?_ rfl (fun b hbk=> ?_)
  ·
   rcases hx with hx|hx
   · have:=h.bd _ _ hx;omega
   · omega
  ·
   refine ⟨w.heap.size,cap,zc.toList,rfl,hge,hle,by simpa using hzs,fun o=> .inr rfl,news++zc.toList,?_,?_,?_⟩
   ·
    have hh:(w.drew.alloc (.cells (news.toArray++zc) e)).heap[w.heap.size]? =some (.cells (news.toArray++zc) e (0,0)):=heap_alloc_new w.drew _
    rw [hh];simp
   · exact ((hfl.st Co).hl hsz).app (HV _ _ _)
   ·
    intro c hc
    rcases List.mem_append.1 hc with hc|hc
    · exact hfl.2.1 c hc
    · exact fY c hc
  ·
   have Cr:some w.heap.size=some b:=hbk
   injection Cr with e1
   subst e1
   exact ⟨by rw [hs1];omega,.inr (Nat.le_refl _)⟩
theorem St.KO {e:TypeId} {sz:Nat} {rows:List (List Pr)} {v:Value} (j:Nat) (hj:rs[j]? =some (CC e sz rows v)) {a:Act} {w:World} (h:St n E (Hp M0 w0 S rs) a w):
  ∃(b cap:Nat) (spare:List Value),v= .slice (some ⟨b,0,none⟩) rows.length cap∧rows.length≤cap∧cap≤maxLen∧spare.length=(cap-rows.length)*sz∧St n E (Hp M0 w0 S (rs.set j (AB true b e (rows.flatten++spare.map is)))) a w:=by
 obtain ⟨M,h1,h2,h3,h4⟩:=h
 have h4:An M0 w0 S rs M w:=h4
 obtain ⟨b,cap,spare,rfl,h5,h6,h7,h8⟩:=(h4.hold _ (List.mem_of_getElem? hj)).1
 exact ⟨b,cap,spare,rfl,h5,h6,h7,M,h1,h2,h3,h4.CI hj rfl rfl h8⟩
theorem Tr.KO {Q:Exit→Act→World→Prop} {c:Code} {e:TypeId} {sz:Nat} {rows:List (List Pr)} {v:Value} (j:Nat) (hj:rs[j]? =some (CC e sz rows v))
  (k:∀(b cap:Nat) (spare:List Value),v= .slice (some ⟨b,0,none⟩) rows.length cap→rows.length≤cap→cap≤maxLen→spare.length=(cap-rows.length)*sz→Tr L n E (Hp M0 w0 S (rs.set j (AB true b e (rows.flatten++spare.map is)))) c Q):Tr L n E (Hp M0 w0 S rs) c Q:=
 fun a w hs=>let ⟨b,cap,spare,h1,h2,h3,h4,h5⟩:=hs.KO j hj;k b cap spare h1 h2 h3 h4 a w h5
theorem Fin.KO {Q:Exit→Act→World→Prop} {ex:Exit} {e:TypeId} {sz:Nat} {rows:List (List Pr)} {v:Value} (j:Nat) (hj:rs[j]? =some (CC e sz rows v))
  (k:∀(b cap:Nat) (spare:List Value),v= .slice (some ⟨b,0,none⟩) rows.length cap→rows.length≤cap→cap≤maxLen→spare.length=(cap-rows.length)*sz→Fin n E (Hp M0 w0 S (rs.set j (AB true b e (rows.flatten++spare.map is)))) Q ex):Fin n E (Hp M0 w0 S rs) Q ex:=
 fun a w hs=>let ⟨b,cap,spare,h1,h2,h3,h4,h5⟩:=hs.KO j hj;k b cap spare h1 h2 h3 h4 a w h5
theorem An.cZ {M:Av} {w:World} {b cap sz:Nat} {e:TypeId} {rows:List (List Pr)} {qs:List Pr} {j:Nat} (h:An M0 w0 S rs M w) (hj:rs[j]? =some (AB true b e (rows.flatten++qs))) (hl:∀r∈rows,r.length=sz) (hc:rows.length≤cap) (hm:cap≤maxLen) (hq:qs.length=(cap-rows.length)*sz):
  ∃M',Ext M w M' w∧An M0 w0 S (rs.set j (As e sz (.slice (some ⟨b,0,none⟩) rows.length cap))) M' w∧(slice sz rows).h M' w (.slice (some ⟨b,0,none⟩) rows.length cap):=by
 obtain ⟨⟨hM,cs,hh,hcs,hone⟩,cN⟩:=h.hold _ (List.mem_of_getElem? hj)
 have Qt:=(cN b rfl).1
 have hfl:=HL.flat hl hcs hone
 have hlen:=hcs.length
 rw [List.length_append,Bv hl,hq,←Nat.add_mul,show rows.length+(cap-rows.length)=cap by omega] at hlen
 have he:Ext M w (fun b' o=>M b' o∧¬(b'=b∧o<rows.length*sz)) w:=Ext.less fun _ _ h=>h.1
 refine ⟨_,he,?_,DB (hfl.st he) hc hm fun k u hk=> ?_⟩
 ·
  refine h.replace hj he rfl rfl rfl (fun _ _ _=>rfl) rfl (fun b' o hm' hne=>⟨hm',fun hx=>hne (by rw [hx.1];rfl)⟩) (fun b' o hx=>h.bd _ _ hx.1) ?_ rfl (fun b' hbk=> ?_)
  ·
   intro a' n' c' hv hlt
   injection hv with e1 e2 e3
   injection e1 with e1
   subst e1;subst e2;subst e3
   refine ⟨⟨cs.take (rows.length*sz),hfl.1,.inr ⟨b,cap,cs.toArray,rfl,Nat.zero_le _,hh,hc,hm,by simpa using hlen,by simp⟩⟩,fun o ho=>⟨hM o,fun hx=>by omega⟩⟩
  ·
   have Cr:CG (.slice (some ⟨b,0,none⟩) rows.length cap)=some b':=hbk
   simp only [CG] at Cr
   split at Cr
   · simp at Cr;subst Cr;exact ⟨Qt,.inl rfl⟩
   · cases Cr
 ·
  have Ol:k<rows.length*sz:=by rw [←hfl.1];rcases Nat.lt_or_ge k (cs.take (rows.length*sz)).length with h|h;exact h;rw [List.getElem?_eq_none h] at hk;cases hk
  rw [List.getElem?_take,if_pos Ol] at hk
  exact ⟨by simp [World.cell?,hh,hk],fun hx=>hx.2 ⟨rfl,Ol⟩⟩
theorem St.W7 {b b0 cap sz:Nat} {e T:TypeId} {new:Bool} {rows:List (List Pr)} {qs ps ps':List Pr} (j i k:Nat) {p:Pr} (hj:rs[j]? =some (AB true b e (rows.flatten++qs))) (hi:rs[i]? =some (AB new b0 T ps)) (hij:j≠i) (hk:ps[k]? =some p) (hp:Pr.le p (is (.slice (some ⟨b,0,none⟩) rows.length cap)))
  (hl:∀r∈rows,r.length=sz) (hc:rows.length≤cap) (hm:cap≤maxLen) (hq:qs.length=(cap-rows.length)*sz) (hps:ps.set k (AZ (.slice (some ⟨b,0,none⟩) rows.length cap) (slice sz rows))=ps')
  {a:Act} {w:World} (h:St n E (Hp M0 w0 S rs) a w):St n E (Hp M0 w0 S ((rs.set j (As e sz (.slice (some ⟨b,0,none⟩) rows.length cap))).set i (AB new b0 T ps'))) a w:=by
 obtain ⟨M,h1,h2,h3,h4⟩:=h
 obtain ⟨M',h5,h6,h7⟩:=An.cZ h4 hj hl hc hm hq
 have hi':(rs.set j (As e sz (.slice (some ⟨b,0,none⟩) rows.length cap)))[i]? =some (AB new b0 T ps):=by rw [List.getElem?_set,if_neg hij];exact hi
 obtain ⟨h8,cs,h9,h10,h11⟩:=(h6.hold _ (List.mem_of_getElem? hi')).1
 refine ⟨M',h1,h2,fun s q hs=>q.st _ _ _ _ _ h5 (h3 s q hs),h6.CI hi' rfl rfl ⟨h8,cs,h9,?_,h11⟩⟩
 subst hps
 refine Nc (by rw [h10.length];simp) fun k' p' hk'=> ?_
 rw [List.getElem?_set] at hk'
 split at hk'
 ·
  rename_i e1
  subst e1
  split at hk'
  ·
   obtain ⟨u,hu,ZK⟩:=h10.at_ k p hk
   simp at hk';subst hk'
   have:=hp _ _ _ ZK
   refine ⟨u,hu,this,?_⟩
   have hu2:u= .slice (some ⟨b,0,none⟩) rows.length cap:=this
   rw [hu2];exact h7
  · cases hk'
 · exact h10.at_ k' p' hk'
theorem Tr.W7 {Q:Exit→Act→World→Prop} {c:Code} {b b0 cap sz:Nat} {e T:TypeId} {new:Bool} (rows:List (List Pr)) {qs ps ps':List Pr} (j i k:Nat) {p:Pr} (hj:rs[j]? =some (AB true b e (rows.flatten++qs))) (hi:rs[i]? =some (AB new b0 T ps)) (hij:j≠i) (hk:ps[k]? =some p) (hp:Pr.le p (is (.slice (some ⟨b,0,none⟩) rows.length cap)))
  (hl:∀r∈rows,r.length=sz) (hc:rows.length≤cap) (hm:cap≤maxLen) (hq:qs.length=(cap-rows.length)*sz) (hps:ps.set k (AZ (.slice (some ⟨b,0,none⟩) rows.length cap) (slice sz rows))=ps')
  (k':Tr L n E (Hp M0 w0 S ((rs.set j (As e sz (.slice (some ⟨b,0,none⟩) rows.length cap))).set i (AB new b0 T ps'))) c Q):Tr L n E (Hp M0 w0 S rs) c Q:=
 Tr.conv (fun _ _ hs=>hs.W7 j i k hj hi hij hk hp hl hc hm hq hps) k'
end
abbrev str (l:List UInt8):Pr:=is (.string ⟨l.toArray⟩)
theorem G7 (l:List UInt8):(ByteArray.mk l.toArray).toList=l:=by rw [ByteArray.toList_eq]
theorem KP (l:List UInt8):(ByteArray.mk l.toArray).size=l.length:=rfl
section
variable {P:Program} {L:Lg P} {E:Env} {I:Bn} {o:Oper}
theorem Z5 {t u:TypeId} {x y:Operand} {a b:List UInt8} (ho:o.op= .binOp .eql t x y u) (hx:VL E x (str a)) (hy:VL E y (str b)):AH P I o E (bool (decide (a=b))):=
 AH.same fun M w ac he _=>by
  have h1:ac.eval x=_:=hx.ev he (by simp [ho,Op.operands])
  have h2:ac.eval y=_:=hy.ev he (by simp [ho,Op.operands])
  refine ⟨_,by simp [execOp,ho,h1,h2,eqGuard,binOp,Op.stringOp,G7];rfl,?_⟩
  show Value.bool _=Value.bool _
  congr 1
  rw [Bool.eq_iff_iff];simp
theorem Z6 {t u:TypeId} {x y:Operand} {a b:List UInt8} (ho:o.op= .binOp .neq t x y u) (hx:VL E x (str a)) (hy:VL E y (str b)):AH P I o E (bool (!decide (a=b))):=
 AH.same fun M w ac he _=>by
  have h1:ac.eval x=_:=hx.ev he (by simp [ho,Op.operands])
  have h2:ac.eval y=_:=hy.ev he (by simp [ho,Op.operands])
  refine ⟨_,by simp [execOp,ho,h1,h2,eqGuard,binOp,Op.stringOp,G7];rfl,?_⟩
  show Value.bool _=Value.bool _
  congr 1
  rw [Bool.eq_iff_iff];simp
theorem Nd:∀(a b:List UInt8),Op.bytesLess a b=decide (Lib.compareBytes a b= -1)
 |_,[]=>by cases ‹List UInt8›<;>simp [Op.bytesLess,Lib.compareBytes]
 |[],_::_=>by simp [Op.bytesLess,Lib.compareBytes]
 |a::x,b::y=>by
  rw [Op.bytesLess,Nd x y,Lib.compareBytes]
  by_cases h1:a<b
  · simp [h1]
  ·
   by_cases h2:b<a
   ·
    have h3:a≠b:=fun e=>by subst e;exact h1 h2
    simp [h1,h2,h3]
   ·
    have h3:a=b:=UInt8.le_antisymm (UInt8.not_lt.1 h2) (UInt8.not_lt.1 h1)
    simp [h1,h2,h3]
theorem Mh {t u:TypeId} {x y:Operand} {a b:List UInt8} (ho:o.op= .binOp .geq t x y u) (hx:VL E x (str a)) (hy:VL E y (str b)):AH P I o E (bool (!decide (Lib.compareBytes a b= -1))):=
 AH.same fun M w ac he _=>by
  have h1:ac.eval x=_:=hx.ev he (by simp [ho,Op.operands])
  have h2:ac.eval y=_:=hy.ev he (by simp [ho,Op.operands])
  exact ⟨_,by simp [execOp,ho,h1,h2,eqGuard,binOp,Op.stringOp,G7,Nd],rfl⟩
theorem W8 {t:TypeId} {x:Operand} {a:List UInt8} (ho:o.op= .call { callee:= .builtin .len,args:= #[x],argTypes:= #[t] }) (ht:P.underlying t=some .string) (hx:VL E x (str a)):AH P I o E (int ((a.length:Nat):Int)):=
 AH.same fun M w ac he _=>by
  have h1:ac.eval x=_:=hx.ev he (by simp [ho,Op.operands,Call.operands])
  exact ⟨.int .i64 a.length,by simp [execOp,ho,resolve,invoke,builtin,Builtin.len_,h1,run_underlying ht,goInt,KP],rfl⟩
theorem Qu {t:TypeId} {x y:Operand} {k:IntKind} {a:List UInt8} {i:Int} {c:UInt8} (ho:o.op= .index t x y) (ht:P.underlying t=some .string) (hx:VL E x (str a)) (hy:VL E y (is (.int k i))) (h0:0≤i) (hc:a[i.toNat]? =some c):AH P I o E (is (.int .u8 c.toNat)):=
 AH.same fun M w ac he _=>by
  have h1:ac.eval x=_:=hx.ev he (by simp [ho,Op.operands])
  have h2:ac.eval y=_:=hy.ev he (by simp [ho,Op.operands])
  refine ⟨_,?_,rfl⟩
  have hlt:i.toNat<a.length:=by rcases Nat.lt_or_ge i.toNat a.length with h|h;exact h;rw [List.getElem?_eq_none h] at hc;cases hc
  have h3:(ByteArray.mk a.toArray)[i.toNat]? =some c:=by
   rw [getElem?_pos (ByteArray.mk a.toArray) i.toNat (by rw [KP];exact hlt)]
   rw [List.getElem?_eq_getElem hlt] at hc
   simp only [Option.some.injEq] at hc
   rw [←hc]
   rfl
  simp [execOp,ho,h1,h2,Instr.index,asIntOf,run_underlying ht,h0,h3]
theorem KQ {s t e:TypeId} {x:Operand} {a:List UInt8} (ho:o.op= .convert s t x) (hs:P.underlying s=some .string) (ht:P.underlying t=some (.slice e)) (he:P.underlying e=some (.int .u8)) (hx:VL E x (str a)) (hm:a.length≤maxLen):AH P I o E (slice 1 (a.map fun c=>[is (.int .u8 c.toNat)])):=
 AH.val fun M w ac j0 hI=>by
  have h1:ac.eval x=_:=hx.ev j0 (by simp [ho,Op.operands])
  have hrun:=Lib.run_convert_string_bytes (P:=P) w s t e ⟨a.toArray⟩ hs ht he
  have hcap:=grownCap_ge w a.length 0 e
  have hcm:=grownCap_le_maxLen w a.length 0 e hm
  refine ⟨.slice (some ⟨w.heap.size,0,none⟩) a.length (grownCap w a.length 0 e),Lib.bytesWorld w e ⟨a.toArray⟩,by simp [execOp,ho,h1,hrun];exact ⟨rfl,rfl⟩,?_,?_⟩
  ·
   have hbd:Bd M w:=I.bd _ _ hI
   refine ⟨_,grownCap w a.length 0 e,by rw [List.length_map],by rw [List.length_map];exact hcap,hcm,(fun h=>by cases h),fun i row hr=> ?_⟩
   rw [List.getElem?_map] at hr
   cases hc:a[i]? with
   |none=>rw [hc] at hr;cases hr
   |some c=>
    rw [hc] at hr
    simp only [Option.map_some,Option.some.injEq] at hr
    subst hr
    have Eo:i<a.length:=by rcases Nat.lt_or_ge i a.length with h|h;exact h;rw [List.getElem?_eq_none h] at hc;cases hc
    refine ⟨rfl,_,rfl,fun j p hp=> ?_⟩
    have hj:j=0:=by
     rcases Nat.eq_zero_or_pos j with h|h
     · exact h
     · rw [List.getElem?_eq_none (by simp;omega)] at hp;cases hp
    subst hj
    simp only [List.getElem?_cons_zero,Option.some.injEq] at hp
    subst hp
    refine ⟨.int .u8 c.toNat,?_,fun jq=> ?_,rfl,rfl⟩
    ·
     rw [show Addr.add ⟨w.heap.size,0,none⟩ (i*1+0)=⟨w.heap.size,i,none⟩ by unfold Addr.add;split<;>simp_all]
     rw [Lib.bytesWorld_cell w e ⟨a.toArray⟩ i (by rw [KP];exact Eo)]
     have:([]++a).getD i 0=c:=by simp [hc]
     simp [hc]
    · have:=hbd _ _ jq;simp at this
  · exact Lib.bytesWorld_below w e ⟨a.toArray⟩
theorem Qv {a:List UInt8} {k:Nat} {c:UInt8} (h:a[k]? =some c):a[((k:Nat):Int).toNat]? =some c:=h
theorem Nf {t e:TypeId} {x y:Operand} {k:IntKind} {i:Int} {len sz:Nat} {ps qs:List Pr} (ho:o.op= .index t x y) (ht:P.underlying t=some (.array len e)) (he:Dp P e=true) (hz:Af P e=some sz) (hx:VL E x (agg ps)) (hy:VL E y (is (.int k i))) (h0:0≤i) (hl:i<len)
  (hq:(ps.drop (i.toNat*sz)).take sz=qs):AH P I o E (agg qs):=
 AH.same fun M w ac j0 _=>by
  obtain ⟨cs,h1,ho1,h2⟩:=hx.ev j0 (by simp [ho,Op.operands])
  have h3:ac.eval y=_:=hy.ev j0 (by simp [ho,Op.operands])
  refine ⟨.agg (cs.toArray.extract (i.toNat*sz) (i.toNat*sz+sz)),?_,(cs.drop (i.toNat*sz)).take sz,?_,fun c hc=>ho1 c (List.mem_of_mem_drop (List.mem_of_mem_take hc)),by rw [←hq];exact (h2.drop _).take _⟩
  · simp [execOp,ho,h1,h3,Instr.index,asIntOf,run_underlying ht,h0,hl,BT hz,part,DA he]
  ·
   congr 1
   apply Array.toList_inj.1
   simp [List.extract,Nat.add_sub_cancel_left]
theorem Mi {M:Av} {w:World} {v:Value} {xs:List Value} (h:(agg (xs.map is)).h M w v):v= .agg xs.toArray:=by
 obtain ⟨cs,rfl,ho,h2⟩:=h
 congr 1
 have:cs=xs:=by
  clear ho
  induction xs generalizing cs with
  |nil=>cases cs with
   |nil=>rfl
   |cons c cs=>exact h2.elim
  |cons x xs ih=>cases cs with
   |nil=>exact h2.elim
   |cons c cs=>rw [ih cs h2.2,show c=x from h2.1]
 rw [this]
theorem Ng {t u:TypeId} {x y:Operand} {r:Bool} (xs ys:List Value) (ho:o.op= .binOp .eql t x y u) (hx:VL E x (agg (xs.map is))) (hy:VL E y (agg (ys.map is))) (hg:P.eqGuardType P.depth t=false) (hr:∀w,(Op.equal t (.agg xs.toArray) (.agg ys.toArray)).run P w= .ok r w):AH P I o E (bool r):=
 AH.same fun M w ac he _=>by
  have h1:=Mi (hx.ev he (by simp [ho,Op.operands]))
  have h2:=Mi (hy.ev he (by simp [ho,Op.operands]))
  exact ⟨_,by simp [execOp,ho,h1,h2,eqGuard,hg,binOp,hr w],rfl⟩
theorem Tq {t u:TypeId} {x y:Operand} {r:Bool} (xs ys:List Value) (ho:o.op= .binOp .neq t x y u) (hx:VL E x (agg (xs.map is))) (hy:VL E y (agg (ys.map is))) (hg:P.eqGuardType P.depth t=false) (hr:∀w,(Op.equal t (.agg xs.toArray) (.agg ys.toArray)).run P w= .ok r w):AH P I o E (bool (!r)):=
 AH.same fun M w ac he _=>by
  have h1:=Mi (hx.ev he (by simp [ho,Op.operands]))
  have h2:=Mi (hy.ev he (by simp [ho,Op.operands]))
  exact ⟨_,by simp [execOp,ho,h1,h2,eqGuard,hg,binOp,hr w],rfl⟩
theorem eqS {P:Program} {w:World} {d:Nat} {t:TypeId} {fs:Array Field} {xs ys:Array Value} {r:Bool} (ht:P.underlying t=some (.struct fs)) (hp:P.stoodInHeld t=false) (h:(Op.eqFields d xs ys fs.toList).run P w= .ok r w):(Op.equalIn (d+1) t (.agg xs) (.agg ys)).run P w= .ok r w:=by
 have hf:P.fieldsOf t=fs:=by unfold Program.fieldsOf;rw [ht]
 rw [run_equalIn_struct w d t xs ys (by rw [hf];exact ht) hp,hf];exact h
theorem Qw {P:Program} {w:World} {d:Nat} {xs ys:Array Value}:(Op.eqFields d xs ys []).run P w= .ok true w:=by simp [Op.eqFields]
theorem Ho {P : Program} {w : World} {d : Nat} {xs ys : Array Value} {f : Field} {fs : List Field} {vx vy : Value} {r q : Bool} (hn : f.name ≠ "_") (ha : (part f.type xs f.offset).run P w = .ok vx w) (hb : (part f.type ys f.offset).run P w = .ok vy w)
  (he:(Op.equalIn d f.type vx vy).run P w= .ok r w) (hr:(Op.eqFields d xs ys fs).run P w= .ok q w):(Op.eqFields d xs ys (f::fs)).run P w= .ok (r&&q) w:=by
 simp only [Op.eqFields,hn,ne_eq,not_false_eq_true,if_true,Sem.run_bind,ha,hb,he,Result.andThen_ok]
 cases r
 · simp
 · simpa using hr
theorem DQ {P:Program} {w:World} {t:TypeId} {cs:Array Value} {off:Nat} {v:Value} (h1:C9 P t=true) (hv:cs[off]? =some v):(part t cs off).run P w= .ok v w:=by
 simp [part,C_ h1,hv]
theorem Jd {P:Program} {w:World} {d:Nat} {t:TypeId} {k:IntKind} {a b:Int} (h:P.underlying t=some (.int k)):(Op.equalIn (d+1) t (.int k a) (.int k b)).run P w= .ok (decide (a=b)) w:=by
 rw [run_equalIn_int w d t k k a b h];rfl
end
section
variable {P:Program} {L:Lg P} {E:Env} {I:Bn} {o:Oper}
theorem KR {M:Av} {w:World} {sz:Nat} {rows:List (List Pr)} {A:Option Addr} {cap lo hi:Nat} (h:(slice sz rows).h M w (.slice A rows.length cap)) (h1:lo≤hi) (h2:hi≤rows.length):
  (slice sz ((rows.take hi).drop lo)).h M w (.slice (if cap=lo then A else A.map (·.add (lo*sz))) (hi-lo) (cap-lo)):=by
 obtain ⟨A',cap',hv,hc,hm,hA,hr⟩:=h
 injection hv with e1 _ e3
 subst e1;subst e3
 have hlen:((rows.take hi).drop lo).length=hi-lo:=by rw [List.length_drop,List.length_take];omega
 refine ⟨_,cap-lo,by rw [hlen],by rw [hlen];omega,by omega,fun h=> ?_,fun i row hi'=> ?_⟩
 ·
  split at h
  · have:=hA h;omega
  ·
   cases hA2:A with
   |none=>have:=hA hA2;omega
   |some a=>rw [hA2] at h;cases h
 ·
  rw [List.getElem?_drop,List.getElem?_take] at hi'
  split at hi'
  ·
   rename_i hlt
   obtain ⟨h3,ad,h4,h5⟩:=hr _ row hi'
   subst h4
   rw [if_neg (by omega)]
   refine ⟨h3,_,rfl,fun j p hp=> ?_⟩
   obtain ⟨u,h6,h7,h8,h9⟩:=h5 j p hp
   refine ⟨u,?_,?_,h8,h9⟩
   · rw [add_add,show lo*sz+(i*sz+j)=(lo+i)*sz+j by rw [Nat.add_mul];omega];exact h6
   · rw [E4,HQ,show ad.off+lo*sz+(i*sz+j)=ad.off+((lo+i)*sz+j) by rw [Nat.add_mul];omega];exact h7
  · cases hi'
theorem FT {t e:TypeId} {x y:Operand} {k:IntKind} {h:Int} {sz:Nat} {rows:List (List Pr)} (ho:o.op= .slice t x none (some y) none) (ht:P.underlying t=some (.slice e)) (hz:Af P e=some sz) (hx:VL E x (slice sz rows)) (hy:VL E y (is (.int k h))) (h0:0≤h) (hl:h≤rows.length):
  AH P I o E (slice sz (rows.take h.toNat)):=
 AH.same fun M w a he _=>by
  have h1:=hx.ev he (by simp [ho,Op.operands])
  have h3:a.eval y=_:=hy.ev he (by simp [ho,Op.operands])
  obtain ⟨A,cap,hv,hc,hm,hA,hr⟩:=h1
  have h2:=KR (lo:=0) (hi:=h.toNat) (show (slice sz rows).h M w (.slice A rows.length cap) from ⟨A,cap,rfl,hc,hm,hA,hr⟩) (by omega) (by omega)
  refine ⟨_,?_,by simpa using h2⟩
  have hb:h≤(cap:Int):=by omega
  simp [execOp,ho,hv,h3,Instr.sliceAt,Instr.slice,run_underlying ht,Instr.sliceBounds,Instr.sliceBound,asIntOf,h0,hb,BT hz]
theorem Hq {t e:TypeId} {x y:Operand} {k:IntKind} {l:Int} {sz:Nat} {rows:List (List Pr)} (ho:o.op= .slice t x (some y) none none) (ht:P.underlying t=some (.slice e)) (hz:Af P e=some sz) (hx:VL E x (slice sz rows)) (hy:VL E y (is (.int k l))) (h0:0≤l) (hl:l≤rows.length):
  AH P I o E (slice sz (rows.drop l.toNat)):=
 AH.same fun M w a he _=>by
  have h1:=hx.ev he (by simp [ho,Op.operands])
  have h3:a.eval y=_:=hy.ev he (by simp [ho,Op.operands])
  obtain ⟨A,cap,hv,hc,hm,hA,hr⟩:=h1
  have h2:=KR (lo:=l.toNat) (hi:=rows.length) (show (slice sz rows).h M w (.slice A rows.length cap) from ⟨A,cap,rfl,hc,hm,hA,hr⟩) (by omega) (Nat.le_refl _)
  rw [List.take_length] at h2
  refine ⟨_,?_,h2⟩
  simp [execOp,ho,hv,h3,Instr.sliceAt,Instr.slice,run_underlying ht,Instr.sliceBounds,Instr.sliceBound,asIntOf,h0,hl,BT hz]
end
section
variable {P:Program} {L:Lg P} {n:Fm} {fz:Nat} {E:Env} {M0:Av} {w0:World} {S:Nat→Prop} {rs:List Aa} {o:Oper} {g:Func} {M1:Av} {w1:World}
theorem results0 {g:Func} {a:Act} {w:World} (hr:g.results= #[]):(results g a.tmps).run P w= .ok (.tuple #[]) w:=by
 rw [G3,hr];simp [Sem.run_bind]
def Qx (E:Env) (v0:Value) (q0:Pr):List Operand→List Pr→Prop
 |[],[]=>True
 |x::xs,p::ps=>(VL E x p∨(VL E x (is v0)∧Pr.le (AZ v0 q0) p))∧Qx E v0 q0 xs ps
 |_,_=>False
theorem Qx.ev {M M':Av} {w:World} {a:Act} {v0:Value} {q0:Pr} (he:Bi M w E o a) (hx:Ext M w M' w) (h0:q0.h M' w v0):∀{xs:List Operand} {ps:List Pr},(∀x∈xs,x∈o.op.operands.toList)→Qx E v0 q0 xs ps→HL M' w ps (xs.map a.eval)
 |[],[],_,_=>trivial
 |[],_::_,_,h=>h.elim
 |_::_,[],_,h=>h.elim
 |x::xs,p::ps,hm,h=>by
  refine ⟨?_,Qx.ev he hx h0 (fun y hy=>hm y (List.mem_cons_of_mem _ hy)) h.2⟩
  rcases h.1 with h1|⟨h1,h2⟩
  · exact p.st _ _ _ _ _ hx (h1.ev he (hm x (by simp)))
  ·
   have h3:a.eval x=v0:=h1.ev he (hm x (by simp))
   exact h2 _ _ _ ⟨h3,by rw [h3];exact h0⟩
class KS (p:Pr):Prop where
 free:∀M M' w v,p.h M w v→p.h M' w v
instance j4 (u:Value):KS (is u):=⟨fun _ _ _ _ h=>h⟩
instance cj (m:Nat):KS (lens m):=⟨fun _ _ _ _ h=>h⟩
end
def On (es:List (Value×Value)):Array MapEntry:=(es.zipIdx.map fun p=>({ key:=p.1.1,val:=p.1.2,born:=p.2 }:MapEntry)).toArray
theorem KT (es:List (Value×Value)) (i:Nat):(On es)[i]? =(es[i]?).map fun p=>{ key:=p.1,val:=p.2,born:=i }:=by
 simp [On,List.getElem?_zipIdx]
 cases es[i]? <;>simp
structure mg (P:Program) (T kt et:TypeId) {κ:Type} [DecidableEq κ] (enc:κ→Value):Prop where
 und:P.underlying T=some (.map kt et)
 zero:∀w,(zeroValue et).run P w= .ok (.int .i64 0) w
 eq:∀a b w,(Op.equal kt (enc a) (enc b)).run P w= .ok (decide (a=b)) w
 chk:∀e a w,(Instr.checkKey e 10000 kt (enc a)).run P w= .ok () w
 qT:∃d,P.underlying kt=some d∧((∀a b,Instr.sameNow d (enc a) (enc b)=none)∨∀a b,Instr.sameNow d (enc a) (enc b)=some (decide (a=b)))
 bits:∀a,Instr.sameBits 10000 (enc a) (enc a)=true
section
variable {P:Program} {L:Lg P} {n:Fm} {fz:Nat} {E:Env} {M0:Av} {w0:World} {S:Nat→Prop} {rs:List Aa} {o:Oper} {κ:Type} [DecidableEq κ] {enc:κ→Value}
abbrev KU (enc:κ→Value) (es:List (κ×Int)):List (Value×Value):=es.map fun p=>(enc p.1,.int .i64 p.2)
def Z7 (enc:κ→Value) (b:Nat) (es:List (κ×Int)):Aa where
 blk:=some b
 new:=true
 h M w:=(∀o,M b o)∧w.heap[b]? =some (.map (On (KU enc es)) es.length)
 st M w M' w' he hk h:=by
  obtain ⟨h1,h2⟩:=hk b rfl
  exact ⟨fun o=>h2 o (h.1 o),h1.trans h.2⟩
theorem An.mh {M:Av} {w:World} {obj:Obj} {r:Aa} (h:An M0 w0 S rs M w) (hb:r.blk=some w.heap.size) (hn:r.new=true) (hr:r.h (fun b o=>M b o∨b=w.heap.size) (w.alloc obj)):
  An M0 w0 S (r::rs) (fun b o=>M b o∨b=w.heap.size) (w.alloc obj)∧Ext M w (fun b o=>M b o∨b=w.heap.size) (w.alloc obj):=by
 have Qt:Below w.heap.size w (w.alloc obj):=(Below.refl _ _).alloc (Nat.le_refl _) _
 have hsz:(w.alloc obj).heap.size=w.heap.size+1:=by simp
 have he:Ext M w (fun b o=>M b o∨b=w.heap.size) (w.alloc obj):=by
  have h2:=Ext.below (M:=M) Qt
  refine ⟨h2.size,fun a v hc hm=>⟨fun hx=> ?_,(h2.keep a v hc hm).2⟩,fun b o ho hp hm=>⟨fun hx=> ?_,(h2.obj b o ho hp hm).2⟩⟩
  ·
   rcases hx with hx|hx
   · exact hm hx
   · have:=CN hc;omega
  ·
   rcases hx with hx|hx
   · exact hm hx
   · subst hx;simp at ho
 have hI:=(Hp M0 w0 S rs).st _ _ _ Qt h
 refine ⟨⟨hI.m0,fun b o hm=> .inl (hI.m b o hm),hI.os,hI.tape,hI.output,hI.size,hI.block,fun b o hm=> ?_,fun r' hr'=> ?_,?_⟩,he⟩
 ·
  rcases hm with hm|hm
  · exact hI.bd b o hm
  · omega
 ·
  rcases List.mem_cons.1 hr' with rfl|hr'
  ·
   refine ⟨hr,fun b hbk=> ?_⟩
   rw [hb] at hbk
   injection hbk with hbk
   subst hbk
   exact ⟨by omega,by rw [hn];simpa using h.size⟩
  ·
   obtain ⟨h3,h4⟩:=h.hold r' hr'
   exact ⟨r'.st _ _ _ _ he (fun b hbk=>⟨Qt.block b (h4 b hbk).1,fun _ x=> .inl x⟩) h3,fun b hbk=>⟨by have:=(h4 b hbk).1;omega,(h4 b hbk).2⟩⟩
 ·
  refine List.Pairwise.cons (fun r' hr' b hbk Cr=> ?_) h.nd
  rw [hb] at hbk
  injection hbk with hbk
  have:=((h.hold r' hr').2 b Cr).1
  omega
def Ik (w:World) (b:Nat) (o:Obj):World:={ w with heap:=w.heap.setIfInBounds b o }
theorem W9 {w:World} {b:Nat} {o:Obj} (h:b<w.heap.size):(Ik w b o).heap[b]? =some o:=by
 show (w.heap.setIfInBounds b o)[b]? =_
 rw [Array.getElem?_setIfInBounds];simp [h]
theorem G8 {w:World} {b k:Nat} {o:Obj} (h:k≠b):(Ik w b o).heap[k]? =w.heap[k]? :=by
 show (w.heap.setIfInBounds b o)[k]? =_
 rw [Array.getElem?_setIfInBounds,if_neg (fun e=>h e.symm)]
theorem An.mj {M:Av} {w:World} {obj:Obj} {r r':Aa} {j b:Nat} (h:An M0 w0 S rs M w) (hj:rs[j]? =some r) (hb:r.blk=some b) (hb':r'.blk=some b) (hn:r.new=true) (hn':r'.new=true) (hM:∀o,M b o) (hr:r'.h M (Ik w b obj)):
  An M0 w0 S (rs.set j r') M (Ik w b obj)∧Ext M w M (Ik w b obj):=by
 have hlt:=((h.hold r (List.mem_of_getElem? hj)).2 b hb).1
 have hsz:(Ik w b obj).heap.size=w.heap.size:=by simp [Ik]
 have he:Ext M w M (Ik w b obj):=by
  refine ⟨by omega,fun a v hc hm=>⟨hm,?_⟩,fun k o ho hp hm=>⟨hm,?_⟩⟩
  · rw [World.cell?_of_block (w:=w) (G8 (fun e=>hm (by rw [e];exact hM _)))];exact hc
  · rw [G8 (fun e=>hm (by rw [e];exact hM _))];exact ho
 refine ⟨h.replace hj he rfl rfl rfl (fun k _ hk=>G8 (fun e=>hk (by rw [hb,e]))) hn (fun _ _ hm _=>hm) (fun k o hm=>by rw [hsz];exact h.bd k o hm) hr hn' (fun k hk=> ?_),he⟩
 rw [hb'] at hk
 injection hk with hk
 subst hk
 exact ⟨by omega,.inl hb⟩
variable {Q:Exit→Act→World→Prop} {ops:Array Oper} {r:List Oper}
def Lj (it b m:Nat) (seen:List Nat):Aa where
 blk:=some it
 new:=true
 h M w:=(∀o,M it o)∧w.heap[it]? =some (.mapIter (some b) m seen.toArray m)
 st M w M' w' he hk h:=by
  obtain ⟨h1,h2⟩:=hk it rfl
  exact ⟨fun o=>h2 o (h.1 o),h1.trans h.2⟩
theorem TO.range {d j b:Nat} {T kt et:TypeId} {x:Operand} {es:List (κ×Int)} (hT:mg P T kt et enc) (hg:o.guard=none) (hd:o.dst=some d) (hn:d<n) (ho:o.op= .range T x) (hx:VL E x (is (.map (some b)))) (hj:rs[j]? =some (Z7 enc b es))
  (k:∀it,TO P n ops r ((d,ptr it 0)::E) (Hp M0 w0 S (Lj it b es.length []::rs)) Q):TO P n ops (o::r) E (Hp M0 w0 S rs) Q:=
 TO.TG hg fun K M w a hsz hdf he hI hK=>by
  have h1:a.eval x=_:=hx.ev (o:=o) (Bo he) (by simp [ho,Op.operands])
  obtain ⟨_,hh⟩:=(An.hold hI _ (List.mem_of_getElem? hj)).1
  refine TO.val (v:= .pointer (some ⟨w.heap.size,0,none⟩)) (w':=w.alloc (.mapIter (some b) es.length #[] es.length)) ?_ ?_
  · simp [execOp,ho,h1,run_range_map w T kt et b _ _ hT.und hh]
  ·
   obtain ⟨h2,h3⟩:=An.mh (obj:= .mapIter (some b) es.length #[] es.length) (r:=Lj w.heap.size b es.length []) hI rfl rfl ⟨fun _=> .inr rfl,by rw [heap_alloc_new]⟩
   refine hK _ _ _ _ (k w.heap.size) ⟨_,by rw [BL];exact hsz,by rw [put_defers];exact hdf,?_,h2⟩
   intro s p hp
   simp only [List.lookup] at hp
   by_cases hs:s=d
   · subst hs;simp at hp;subst hp;rw [hd,A8 (by rw [hsz];exact hn)];rfl
   ·
    rw [show (s==d)=false by simpa using hs] at hp
    rw [hd,Ap hs]
    exact p.st _ _ _ _ _ h3 (he s p hp)
theorem mem_left {es:List (Value×Value)} {seen:List Nat} {e:MapEntry}:e∈(leftOf (On es) seen.toArray).toList↔∃q p,es[q]? =some p∧q∉seen∧e={ key:=p.1,val:=p.2,born:=q }:=by
 unfold leftOf
 rw [Array.toList_filter,List.mem_filter]
 constructor
 ·
  rintro ⟨h1,h2⟩
  obtain ⟨q,hq⟩:=List.mem_iff_getElem?.1 h1
  rw [Array.getElem?_toList,KT] at hq
  cases hp:es[q]? with
  |none=>rw [hp] at hq;cases hq
  |some p=>
   rw [hp] at hq
   simp only [Option.map_some,Option.some.injEq] at hq
   subst hq
   exact ⟨q,p,hp,by simpa using h2,rfl⟩
 ·
  rintro ⟨q,p,hp,hq,rfl⟩
  exact ⟨List.mem_iff_getElem?.2 ⟨q,by rw [Array.getElem?_toList,KT,hp];rfl⟩,by simpa using hq⟩
theorem Mj {w:World} (ty:TypeId) {it b m:Nat} {seen:List Nat} {es:List (Value×Value)} (hm:es.length=m) (hit:w.heap[it]? =some (.mapIter (some b) m seen.toArray m)) (hb:w.heap[b]? =some (.map (On es) m)):
  ((∀q,q<m→q∈seen)∧(Instr.next (.pointer (some ⟨it,0,none⟩)) false ty).run P w= .ok (.tuple #[.bool false]) w)∨
  ∃q p,es[q]? =some p∧q∉seen∧∃w1,(w1=w∨w1=w.drew)∧(Instr.next (.pointer (some ⟨it,0,none⟩)) false ty).run P w= .ok (.tuple #[.bool true,p.1,p.2]) (Ik w1 it (.mapIter (some b) m (seen++[q]).toArray m)):=by
 have hold:∀x∈(On es).toList,x.born<m:=by
  intro x hx
  obtain ⟨q,hq⟩:=List.mem_iff_getElem?.1 hx
  rw [Array.getElem?_toList,KT] at hq
  cases hp:es[q]? with
  |none=>rw [hp] at hq;cases hq
  |some p=>
   rw [hp] at hq
   simp only [Option.map_some,Option.some.injEq] at hq
   subst hq
   show q<m
   rcases Nat.lt_or_ge q es.length with h|h
   · omega
   · rw [List.getElem?_eq_none h] at hp;cases hp
 simp only [Instr.next,getObj,Sem.run_bind,Sem.run,hit,hb,Result.andThen,next_test_false seen.toArray (On es) m m hold (Nat.le_refl _),Bool.false_eq_true,if_false]
 have hleft:(On es).filter (fun e=> !seen.toArray.contains e.born)=leftOf (On es) seen.toArray:=rfl
 rw [hleft]
 have hmem:∀x∈(leftOf (On es) seen.toArray).toList,x.born<m:=fun x hx=>by
  obtain ⟨q,p,h1,_,rfl⟩:=mem_left.1 hx
  rcases Nat.lt_or_ge q es.length with h|h
  · show q<m;omega
  · rw [List.getElem?_eq_none h] at h1;cases h1
 have hml:∀e,e∈(leftOf (On es) seen.toArray).toList↔∃q p,es[q]? =some p∧q∉seen∧e={ key:=p.1,val:=p.2,born:=q }:=fun e=>mem_left
 generalize leftOf (On es) seen.toArray=L at hmem hml ⊢
 have e1:L.filter (fun x=>decide (x.born<m))=L:=Array.filter_eq_self.2 (fun x hx=>by simpa using hmem x (by simpa using hx))
 have e2:L.filter (fun x=>decide (x.born≥m))= #[]:=by
  rw [Array.filter_eq_empty_iff]
  intro x hx
  have:=hmem x (by simpa using hx)
  simp
  omega
 simp only [e1,e2,Array.append_empty]
 by_cases h0:L.size=0
 ·
  left
  have hL:L= #[]:=Array.eq_empty_of_size_eq_zero h0
  refine ⟨fun q hq=> ?_,?_⟩
  ·
   rcases Classical.em (q∈seen) with h|h
   · exact h
   ·
    have:=(hml { key:=(es[q]'(by omega)).1,val:=(es[q]'(by omega)).2,born:=q }).2 ⟨q,es[q]'(by omega),List.getElem?_eq_getElem (by omega),h,rfl⟩
    rw [hL] at this;simp at this
  ·
   subst hL
   simp [choose,Sem.run,Question.forced]
 ·
  right
  have hne:L.isEmpty=false:=by simp [Array.isEmpty,h0]
  simp only [hne,Bool.false_eq_true,if_false,Array.empty_append,Array.size_map]
  have hch:∃(j:Nat) (w1:World),j<L.size∧(w1=w∨w1=w.drew)∧(choose (Question.mapNext L.size)).run P w= .ok j w1:=by
   by_cases hf:L.size≤1
   · exact ⟨0,w,by omega,.inl rfl,by simp [choose,Sem.run,Question.forced,hf]⟩
   ·
    exact ⟨_, w.drew, Nat.mod_lt _ (by omega), .inr rfl, by
     simp only [choose,Sem.run,Question.forced,decide_eq_true_eq,hf,if_false,Question.cut]
     rfl⟩
  obtain ⟨j,w1,hj,hal,hrun⟩:=hch
  obtain ⟨q,p,hq1,Rl,Z8⟩:=(hml L[j]).1 (by simp)
  refine ⟨q,p,hq1,Rl,w1,hal,?_⟩
  have hw1:w1.heap=w.heap:=by rcases hal with rfl|rfl<;>rfl
  have Gv:∀(o':Obj),(setObj it o').run P w1= .ok () (Ik w1 it o'):=fun o'=>by
   have mm:w1.heap[it]? =some (.mapIter (some b) m seen.toArray m):=by rw [hw1];exact hit
   simp only [setObj,Sem.run,mm]
   rfl
  simp only [hrun,Array.getElem?_map,Array.getElem?_eq_getElem hj,Option.map_some,Sem.run_bind,Gv,Result.andThen]
  rw [Z8]
  simp
omit [DecidableEq κ] in
theorem TO.next {d i j it b:Nat} {x:Operand} {es:List (κ×Int)} {seen:List Nat} (hg:o.guard=none) (hd:o.dst=some d) (hn:d<n) (ho:o.op= .next x false) (hx:VL E x (ptr it 0)) (hi:rs[i]? =some (Lj it b es.length seen)) (hj:rs[j]? =some (Z7 enc b es))
  (k1:(∀q,q<es.length→q∈seen)→TO P n ops r ((d,IM [bool false])::E) (Hp M0 w0 S rs) Q)
  (k2:∀q p,es[q]? =some p→q∉seen→TO P n ops r ((d,IM [bool true,is (enc p.1),int p.2])::E) (Hp M0 w0 S (rs.set i (Lj it b es.length (seen++[q])))) Q):TO P n ops (o::r) E (Hp M0 w0 S rs) Q:=
 TO.TG hg fun K M w a hsz hdf he hI hK=>by
  have h1:a.eval x= .pointer (some ⟨it,0,none⟩):=hx.ev (o:=o) (Bo he) (by simp [ho,Op.operands])
  obtain ⟨⟨hMi,hit⟩,hbi⟩:=An.hold hI _ (List.mem_of_getElem? hi)
  obtain ⟨_,hh⟩:=(An.hold hI _ (List.mem_of_getElem? hj)).1
  have hlt:=(hbi it rfl).1
  rcases Mj (P:=P) o.type (es:=KU enc es) (by simp [KU]) hit hh with ⟨h2,h3⟩|⟨q,p,h2,h3,w1,h4,h5⟩
  ·
   refine TO.val (v:= .tuple #[.bool false]) (w':=w) ?_ ?_
   · simp [execOp,ho,h1,h3]
   ·
    refine hK _ _ _ _ (k1 h2) ⟨M,by rw [BL];exact hsz,by rw [put_defers];exact hdf,?_,hI⟩
    intro s p hp
    simp only [List.lookup] at hp
    by_cases hs:s=d
    · subst hs;simp at hp;subst hp;rw [hd,A8 (by rw [hsz];exact hn)];exact ⟨_,rfl,rfl,trivial⟩
    ·
     rw [show (s==d)=false by simpa using hs] at hp
     rw [hd,Ap hs];exact he s p hp
  ·
   have mo:∃p',es[q]? =some p'∧p=(enc p'.1,.int .i64 p'.2):=by
    simp only [KU,List.getElem?_map] at h2
    cases h:es[q]? with
    |none=>rw [h] at h2;cases h2
    |some p'=>rw [h] at h2;simp at h2;exact ⟨p',rfl,h2.symm⟩
   obtain ⟨p',hp',rfl⟩:=mo
   refine TO.val (v:= .tuple #[.bool true,enc p'.1,.int .i64 p'.2]) (w':=Ik w1 it (.mapIter (some b) es.length (seen++[q]).toArray es.length)) ?_ ?_
   · simp [execOp,ho,h1,h5]
   ·
    have Z9:Below w.heap.size w w1:=by
     rcases h4 with rfl|rfl
     · exact Below.refl _ _
     · exact (Below.refl _ _).drew
    have mq:=(Hp M0 w0 S rs).st _ _ _ Z9 hI
    obtain ⟨h6,h7⟩:=An.mj (obj:= .mapIter (some b) es.length (seen++[q]).toArray es.length) (r':=Lj it b es.length (seen++[q])) mq hi rfl rfl rfl rfl hMi ⟨hMi,W9 (Nat.lt_of_lt_of_le hlt Z9.size)⟩
    refine hK _ _ _ _ (k2 q p' hp' h3) ⟨M,by rw [BL];exact hsz,by rw [put_defers];exact hdf,?_,h6⟩
    intro s p hp
    simp only [List.lookup] at hp
    by_cases hs:s=d
    · subst hs;simp at hp;subst hp;rw [hd,A8 (by rw [hsz];exact hn)];exact ⟨_,rfl,rfl,rfl,rfl,trivial⟩
    ·
     rw [show (s==d)=false by simpa using hs] at hp
     rw [hd,Ap hs]
     exact p.st _ _ _ _ _ ((Ext.below Z9).trans h7) (he s p hp)
omit [DecidableEq κ] in
theorem TO.entry {d i j it b q:Nat} {x:Operand} {es:List (κ×Int)} {seen:List Nat} {p:κ×Int} (hg:o.guard=none) (hd:o.dst=some d) (hn:d<n) (ho:o.op= .entry x) (hx:VL E x (ptr it 0)) (hi:rs[i]? =some (Lj it b es.length (seen++[q]))) (hj:rs[j]? =some (Z7 enc b es)) (hq:es[q]? =some p)
  (k:TO P n ops r ((d,IM [is (enc p.1),int p.2])::E) (Hp M0 w0 S rs) Q):TO P n ops (o::r) E (Hp M0 w0 S rs) Q:=
 TO.TG hg fun K M w a hsz hdf he hI hK=>by
  have h1:a.eval x= .pointer (some ⟨it,0,none⟩):=hx.ev (o:=o) (Bo he) (by simp [ho,Op.operands])
  obtain ⟨⟨_,hit⟩,_⟩:=An.hold hI _ (List.mem_of_getElem? hi)
  obtain ⟨_,hh⟩:=(An.hold hI _ (List.mem_of_getElem? hj)).1
  have hat:(On (KU enc es))[q]? =some { key:=enc p.1,val:= .int .i64 p.2,born:=q }:=by rw [KT];simp [KU,hq]
  have hnd:((On (KU enc es)).toList.map (·.born)).Nodup:=by
   have:(On (KU enc es)).toList.map (·.born)=List.range (KU enc es).length:=by
    apply List.ext_getElem?
    intro k
    rw [List.getElem?_map,Array.getElem?_toList,KT]
    by_cases hk:k<(KU enc es).length
    · rw [List.getElem?_range hk,List.getElem?_eq_getElem hk];rfl
    · rw [List.getElem?_eq_none (Nat.le_of_not_lt hk),List.getElem?_eq_none (by simp at hk ⊢;omega)];rfl
   rw [this];exact List.nodup_range
  have hfind:(On (KU enc es)).find? (fun e=>e.born==q)=some { key:=enc p.1,val:= .int .i64 p.2,born:=q }:=by
   rw [←Array.find?_toList]
   exact find_born { key:=enc p.1,val:= .int .i64 p.2,born:=q } _ hnd (List.mem_iff_getElem?.2 ⟨q,by rw [Array.getElem?_toList];exact hat⟩)
  refine TO.val (v:= .tuple #[enc p.1,.int .i64 p.2]) (w':=w) ?_ ?_
  ·
   have:(Instr.entry (.pointer (some ⟨it,0,none⟩))).run P w= .ok (.tuple #[enc p.1,.int .i64 p.2]) w:=by
    have hb:(seen++[q]).toArray.back? =some q:=by simp
    simp only [Instr.entry,getObj,Sem.run_bind,Sem.run,hit,hh,Result.andThen,hb,bne_self_eq_false,Bool.false_eq_true,if_false,hfind]
    rfl
   simp [execOp,ho,h1,this]
  ·
   refine hK _ _ _ _ k ⟨M,by rw [BL];exact hsz,by rw [put_defers];exact hdf,?_,hI⟩
   intro s p hp
   simp only [List.lookup] at hp
   by_cases hs:s=d
   · subst hs;simp at hp;subst hp;rw [hd,A8 (by rw [hsz];exact hn)];exact ⟨_,rfl,rfl,rfl,trivial⟩
   ·
    rw [show (s==d)=false by simpa using hs] at hp
    rw [hd,Ap hs];exact he s p hp
end
section
variable {P:Program} {L:Lg P}
end
section
variable {P:Program} {L:Lg P} {n:Fm} {fz:Nat} {E:Env} {M0:Av} {w0:World} {S:Nat→Prop} {rs:List Aa} {o:Oper}
theorem JW (w:World) (A:Option Addr) (t ty e:TypeId) (i:TypeInfo) (z:Value) (ht:P.underlying t=some (.slice e)) (hi:P.info? e=some i) (hz:i.zero=some z)
  (a:Addr) (n c:Nat) (news:List Value) (hl:news.length=n*i.size) (hnews:∀j v,news[j]? =some v→w.cell? (a.add j)=some v)
  (h0:0<n) (h63:(n:Int)≤9223372036854775807) (h48:n*i.bytes≤281474976710656):
  (Builtin.append_ #[t, t] ty #[.slice A 0 0, .slice (some a) n c]).run P w =
   .ok (.slice (some ⟨w.heap.size,0,none⟩) n (grownCap w n 0 e)) (w.drew.alloc (.cells (news.toArray++Builtin.zeroCells z.cells (grownCap w n 0 e-n)) e)):=by
 cases A with
 |none=>exact run_append_nil (w:=w) t ty e i z ht hi hz a n c news hl hnews h0 h63 h48
 |some b=>
  have:=run_append_grow (w:=w) t ty e i z ht hi hz b 0 0 [] (by simp) (by simp) a n c news hl hnews (by omega) (by simpa using h63) (by rw [Nat.zero_add,nextslicecap_zero h0];exact h48)
  simpa using this
theorem Ts {M:Av} {w:World} {t ty e:TypeId} {sz bytes:Nat} {zs:List Value} {rows:List (List Pr)} {u:Value} {j:Nat} (A:Option Addr) (ht:P.underlying t=some (.slice e)) (hz:Af P e=some sz) (hby:BZ P e=some bytes) (DO:Ax P e=some zs) (hzl:zs.length=sz) (hone:zs.all (·.oneCell')=true) (hsz:0<sz)
  (h:An M0 w0 S rs M w) (hj:rs[j]? =some BA) (hu:(slice sz rows).h M w u) (hpos:0<rows.length) (Er:rows.length≤maxLen) (hfit:rows.length*bytes≤140737488355328):
  ∃v' w' M',(Builtin.append_ #[t,t] ty #[.slice A 0 0,u]).run P w= .ok v' w'∧(lens rows.length).h M' w' v'∧Ext M w M' w'∧An M0 w0 S (rs.set j (CC e sz rows v')) M' w':=by
 unfold Af at hz
 unfold BZ at hby
 unfold Ax at DO
 cases hi:P.info? e with
 |none=>rw [hi] at hz;cases hz
 |some i=>
  rw [hi] at hz hby DO
  simp only [Option.map_some,Option.some.injEq,Option.map_eq_some_iff] at hz hby DO
  obtain ⟨z,Qf,DO⟩:=DO
  have TN:z.cells.size=sz:=by rw [←hzl,←DO];simp
  obtain ⟨A',c',rfl,ZQ,O0,V7,ER⟩:=hu
  have MK:(slice sz rows).h M w (.slice A' rows.length c'):=⟨A',c',rfl,ZQ,O0,V7,ER⟩
  obtain ⟨LZ,rfl⟩:∃LZ,A'=some LZ:=by
   obtain ⟨_,b,hb,_⟩:=ER 0 _ (List.getElem?_eq_getElem hpos)
   exact ⟨b,hb⟩
  obtain ⟨news,hfl,hcell⟩:=Dt hsz MK
  have hrun:=JW (P:=P) w A t ty e i z ht hi Qf LZ rows.length c' news (by rw [hz];exact hfl.1) (fun k u hk=>(hcell k u hk).1) hpos (by unfold maxLen at Er;omega) (by rw [hby];omega)
  generalize hcap:grownCap w rows.length 0 e=cap at hrun
  have hge:rows.length≤cap:=by rw [←hcap];exact grownCap_ge _ _ _ _
  have hle:cap≤maxLen:=by rw [←hcap];exact grownCap_le_maxLen _ _ _ _ Er
  generalize LI:Builtin.zeroCells z.cells (cap-rows.length)=zc at hrun
  have hzs:zc.size=(cap-rows.length)*sz:=by rw [←LI,size_zeroCells,TN]
  have fY:∀c∈zc.toList,c.oneCell'=true:=by rw [←LI];exact Ez DO hone
  have hb:Below w.heap.size w (w.drew.alloc (.cells (news.toArray++zc) e)):=((Below.refl _ _).drew).alloc (Nat.le_refl _) _
  have h2:=Ext.below (M:=M) hb
  have Co:Ext M w (fun b o=>M b o∨b=w.heap.size) (w.drew.alloc (.cells (news.toArray++zc) e)):=by
   refine ⟨h2.size,fun a v hc hm=>⟨fun hx=> ?_,(h2.keep a v hc hm).2⟩,fun b o ho hp hm=>⟨fun hx=> ?_,(h2.obj b o ho hp hm).2⟩⟩
   ·
    rcases hx with hx|hx
    · exact hm hx
    · have:=CN hc;omega
   ·
    rcases hx with hx|hx
    · exact hm hx
    · subst hx;simp at ho
  have hs1:(w.drew.alloc (.cells (news.toArray++zc) e)).heap.size=w.heap.size+1:=by simp
  refine ⟨_,_,fun b o=>M b o∨b=w.heap.size,hrun,⟨_,_,rfl⟩,Co,?_⟩
  refine h.replace hj Co hb.os hb.tape hb.output (fun k hk _=>hb.block k hk) rfl (fun b o hm _=> .inl hm) (fun b o hx=> ?_) ?_ rfl (fun b hbk=> ?_)
  ·
   rcases hx with hx|hx
   · have:=h.bd _ _ hx;omega
   · omega
  ·
   refine ⟨w.heap.size,cap,zc.toList,rfl,hge,hle,by simpa using hzs,fun o=> .inr rfl,news++zc.toList,?_,?_,?_⟩
   ·
    have hh:(w.drew.alloc (.cells (news.toArray++zc) e)).heap[w.heap.size]? =some (.cells (news.toArray++zc) e (0,0)):=heap_alloc_new w.drew _
    rw [hh];simp
   · exact ((hfl.st Co).hl hsz).app (HV _ _ _)
   ·
    intro c hc
    rcases List.mem_append.1 hc with hc|hc
    · exact hfl.2.1 c hc
    · exact fY c hc
  ·
   have Cr:some w.heap.size=some b:=hbk
   injection Cr with e1
   subst e1
   exact ⟨by rw [hs1];omega,.inr (Nat.le_refl _)⟩
theorem FU {t e:TypeId} {x y:Operand} {sz':Nat} {sz bytes d:Nat} {zs:List Value} {rows:List (List Pr)} {j:Nat} (hg:o.guard=none) (hd:o.dst=some d) (hn:d<n) (ho:o.op= .call { callee:= .builtin .append,args:= #[x,y],argTypes:= #[t,t] })
  (ht:P.underlying t=some (.slice e)) (hz:Af P e=some sz) (hby:BZ P e=some bytes) (DO:Ax P e=some zs) (hzl:zs.length=sz) (hone:zs.all (·.oneCell')=true) (hsz:0<sz)
  (hx:VL E x (full sz' [])) (hy:VL E y (slice sz rows)) (hpos:0<rows.length) (Er:rows.length≤maxLen) (hfit:rows.length*bytes≤140737488355328):Cd P M0 w0 S n j (SR.c BA) ⟨d,CC e sz rows⟩ o E (lens rows.length):=by
 refine ⟨hg,fun M w a rs Ib he hI hj=> ?_⟩
 have h2:=hy.ev he (by simp [ho,Op.operands,Call.operands])
 obtain ⟨_,A,h1⟩:=hx.ev he (by simp [ho,Op.operands,Call.operands])
 simp only [List.length_nil] at h1
 obtain ⟨v',w',M',hrun,h3,h4,h5⟩:=Ts A (ty:=o.type) ht hz hby DO hzl hone hsz hI hj h2 hpos Er hfit
 have DC:(execOp a.eval o).run P w= .ok (.value v') w':=by simp [execOp,ho,resolve,invoke,builtin,h1,hrun]
 rw [DC]
 refine ⟨M',h3,h4,?_⟩
 have:(SR.at_ (a.put o.dst v') ⟨d,CC e sz rows⟩)=CC e sz rows v':=by unfold SR.at_ Slot.val;dsimp only;rw [hd,A8 (by rw [Ib];exact hn)]
 rw [this];exact h5
theorem Hr {I:Bn} {t e:TypeId} {x:Operand} {A:Option Addr} {m cap:Nat} (ho:o.op= .call { callee:= .builtin .len,args:= #[x],argTypes:= #[t] }) (ht:P.underlying t=some (.slice e)) (hx:VL E x (is (.slice A m cap))):AH P I o E (int m):=
 AH.same fun M w a he _=>by
  have h1:a.eval x=_:=hx.ev he (by simp [ho,Op.operands,Call.operands])
  exact ⟨.int .i64 m,by simp [execOp,ho,resolve,invoke,builtin,Builtin.len_,h1,run_underlying ht,goInt],rfl⟩
theorem Nh {I:Bn} {t e:TypeId} {x y:Operand} {k:IntKind} {h:Int} {sz b m cap:Nat} (ho:o.op= .slice t x none (some y) none) (ht:P.underlying t=some (.slice e)) (hz:Af P e=some sz) (hx:VL E x (is (.slice (some ⟨b,0,none⟩) m cap))) (hy:VL E y (is (.int k h))) (h0:0≤h) (hl:h≤m) (hc:m≤cap) (h1m:0<cap):
  AH P I o E (is (.slice (some ⟨b,0,none⟩) h.toNat cap)):=
 AH.same fun M w a he _=>by
  have h1:a.eval x=_:=hx.ev he (by simp [ho,Op.operands])
  have h3:a.eval y=_:=hy.ev he (by simp [ho,Op.operands])
  have hb:h≤(cap:Int):=by omega
  refine ⟨_,?_,rfl⟩
  simp [execOp,ho,h1,h3,Instr.sliceAt,Instr.slice,run_underlying ht,Instr.sliceBounds,Instr.sliceBound,asIntOf,h0,hb,BT hz]
  intro _;rfl
theorem Tt {β:Type} {f:β→List Pr} {l:List β} {qs:List Pr} {sz:Nat} (hf:∀x,(f x).length=sz) {i:Nat} {x:β} (h:l[i]? =some x):((((l.map f).flatten++qs).drop (i*sz)).take sz)=f x:=by
 have hl:∀r∈l.map f,r.length=sz:=fun r hr=>by obtain ⟨y,_,rfl⟩:=List.mem_map.1 hr;exact hf y
 have hi:i<l.length:=by rcases Nat.lt_or_ge i l.length with h'|h';exact h';rw [List.getElem?_eq_none h'] at h;cases h
 have hfl:=Bv hl
 rw [List.length_map] at hfl
 have hle:(i+1)*sz≤l.length*sz:=Nat.mul_le_mul_right sz hi
 rw [Nat.add_mul,Nat.one_mul] at hle
 apply List.ext_getElem?
 intro k
 rw [List.getElem?_take]
 split
 ·
  rename_i hk
  rw [List.getElem?_drop,List.getElem?_append_left (by rw [hfl];omega),FR hl (by rw [List.getElem?_map,h];rfl) hk]
 ·
  rename_i hk
  rw [List.getElem?_eq_none (by rw [hf];omega)]
theorem Ll {β:Type} {f:β→List Pr} {sz:Nat} (hf:∀x,(f x).length=sz):∀{l:List β} {qs:List Pr} {i:Nat} {x:β},i<l.length→((l.map f).flatten++qs).take (i*sz)++f x++((l.map f).flatten++qs).drop (i*sz+sz)=((l.set i x).map f).flatten++qs
 |[],_,_,_,h=>by simp at h
 |a::l,qs,0,x,_=>by
  simp only [List.map_cons,List.flatten_cons,Nat.zero_mul,List.take_zero,List.nil_append,Nat.zero_add,List.set_cons_zero]
  rw [←hf a,List.append_assoc,List.drop_left,List.append_assoc]
 |a::l,qs,i+1,x,h=>by
  have ih:=Ll hf (l:=l) (qs:=qs) (i:=i) (x:=x) (by simpa using h)
  simp only [List.map_cons,List.flatten_cons,List.set_cons_succ]
  have e1:(i+1)*sz=(f a).length+i*sz:=by rw [hf a,Nat.add_mul];omega
  rw [List.append_assoc,List.append_assoc,e1,List.take_append,List.take_of_length_le (by omega),show (f a).length+i*sz-(f a).length=i*sz by omega,show (f a).length+i*sz+sz=(f a).length+(i*sz+sz) by omega,List.drop_append,List.drop_of_length_le (by omega),show (f a).length+(i*sz+sz)-(f a).length=i*sz+sz by omega,List.nil_append,List.append_assoc (f a) _ qs,←ih]
  simp only [List.append_assoc]
theorem TO.KO {ops:Array Oper} {r:List Oper} {Q:Exit→Act→World→Prop} {e:TypeId} {sz:Nat} {rows:List (List Pr)} {v:Value} (j:Nat) (hj:rs[j]? =some (CC e sz rows v))
  (k:∀(b cap:Nat) (spare:List Value),v= .slice (some ⟨b,0,none⟩) rows.length cap→rows.length≤cap→cap≤maxLen→spare.length=(cap-rows.length)*sz→TO P n ops r E (Hp M0 w0 S (rs.set j (AB true b e (rows.flatten++spare.map is)))) Q):TO P n ops r E (Hp M0 w0 S rs) Q:=
 fun m hl a w hs=>let ⟨b,cap,spare,h1,h2,h3,h4,h5⟩:=hs.KO j hj;k b cap spare h1 h2 h3 h4 m hl a w h5
theorem Lm {β:Type} {f:β→List Pr} {l:List β} {qs:List Pr} {sz:Nat} (hf:∀x,(f x).length=sz):((l.map f).flatten++qs).length=l.length*sz+qs.length:=by
 rw [List.length_append,Bv (sz:=sz) (fun r hr=>by obtain ⟨y,_,rfl⟩:=List.mem_map.1 hr;exact hf y),List.length_map]
theorem BQ {β:Type} {f:β→List Pr} {l:List β} {sz:Nat} (hf:∀x,(f x).length=sz):∀r∈l.map f,r.length=sz:=fun r hr=>by obtain ⟨y,_,rfl⟩:=List.mem_map.1 hr;exact hf y
theorem St.PD {b cap sz:Nat} {e:TypeId} {rows:List (List Pr)} {qs:List Pr} (j d:Nat) {p:Pr} (hj:rs[j]? =some (AB true b e (rows.flatten++qs))) (hd:E.lookup d=some p) (hp:Pr.le p (is (.slice (some ⟨b,0,none⟩) rows.length cap)))
  (hl:∀r∈rows,r.length=sz) (hc:rows.length≤cap) (hm:cap≤maxLen) (hq:qs.length=(cap-rows.length)*sz)
  {a:Act} {w:World} (h:St n E (Hp M0 w0 S rs) a w):St n ((d,AZ (.slice (some ⟨b,0,none⟩) rows.length cap) (slice sz rows))::E) (Hp M0 w0 S (rs.set j (As e sz (.slice (some ⟨b,0,none⟩) rows.length cap)))) a w:=by
 obtain ⟨M,h1,h2,h3,h4⟩:=h
 obtain ⟨M',h5,h6,h7⟩:=An.cZ h4 hj hl hc hm hq
 refine ⟨M',h1,h2,fun s q hs=> ?_,h6⟩
 simp only [List.lookup] at hs
 split at hs
 ·
  rename_i e1
  have:s=d:=by simpa using e1
  subst this
  simp only [Option.some.injEq] at hs
  subst hs
  have h8:=hp _ _ _ (h3 _ _ hd)
  exact ⟨h8,by rw [show a.tmps.getD s undef=_ from h8];exact h7⟩
 · exact q.st _ _ _ _ _ h5 (h3 s q hs)
theorem Tr.PD {Q:Exit→Act→World→Prop} {c:Code} {b cap sz:Nat} {e:TypeId} (rows:List (List Pr)) {qs:List Pr} (j d:Nat) {p:Pr} (hj:rs[j]? =some (AB true b e (rows.flatten++qs))) (hd:E.lookup d=some p) (hp:Pr.le p (is (.slice (some ⟨b,0,none⟩) rows.length cap)))
  (hl:∀r∈rows,r.length=sz) (hc:rows.length≤cap) (hm:cap≤maxLen) (hq:qs.length=(cap-rows.length)*sz)
  (k:Tr L n ((d,AZ (.slice (some ⟨b,0,none⟩) rows.length cap) (slice sz rows))::E) (Hp M0 w0 S (rs.set j (As e sz (.slice (some ⟨b,0,none⟩) rows.length cap)))) c Q):Tr L n E (Hp M0 w0 S rs) c Q:=
 Tr.conv (fun _ _ hs=>hs.PD j d hj hd hp hl hc hm hq) k
theorem Fin.PD {Q:Exit→Act→World→Prop} {x:Exit} {b cap sz:Nat} {e:TypeId} (rows:List (List Pr)) {qs:List Pr} (j d:Nat) {p:Pr} (hj:rs[j]? =some (AB true b e (rows.flatten++qs))) (hd:E.lookup d=some p) (hp:Pr.le p (is (.slice (some ⟨b,0,none⟩) rows.length cap)))
  (hl:∀r∈rows,r.length=sz) (hc:rows.length≤cap) (hm:cap≤maxLen) (hq:qs.length=(cap-rows.length)*sz)
  (k:Fin n ((d,AZ (.slice (some ⟨b,0,none⟩) rows.length cap) (slice sz rows))::E) (Hp M0 w0 S (rs.set j (As e sz (.slice (some ⟨b,0,none⟩) rows.length cap)))) Q x):Fin n E (Hp M0 w0 S rs) Q x:=
 Fin.conv (fun _ _ hs=>hs.PD j d hj hd hp hl hc hm hq) k
end
section
variable {P:Program} {L:Lg P} {n:Fm} {fz:Nat} {E:Env} {M0:Av} {w0:World} {S:Nat→Prop} {rs:List Aa} {o:Oper} {g:Func} {M1:Av} {w1:World}
def DZ (T:TypeId) (ps:List Pr) (v:Value):Aa:=match v with| .pointer (some a)=>AB true a.block T ps|_=>BA
theorem Il {d j:Nat} {T:TypeId} {zs:List Value} (hg:o.guard=none) (hd:o.dst=some d) (hn:d<n) (ho:o.op= .alloc T) (hz:Ax P T=some zs) (h1':zs.all (·.oneCell')=true):
  Cd P M0 w0 S n j (SR.c BA) ⟨d,DZ T (zs.map is)⟩ o E (Cp.ex fun b=>ptr b 0):=by
 refine ⟨hg,fun M w a rs Ib he hI hj=> ?_⟩
 have h1:∀c∈zs,c.oneCell'=true:=fun c hc=>List.all_eq_true.1 h1' c hc
 obtain ⟨z,Gj,TH⟩:=NJ hz w
 have hrun:(execOp a.eval o).run P w= .ok (.value (.pointer (some ⟨w.heap.size,0,none⟩))) (w.alloc (.cells zs.toArray T)):=by simp [execOp,ho,Instr.alloc,Gj,newVar,newRow,←TH]
 rw [hrun]
 have hb:Below w.heap.size w (w.alloc (.cells zs.toArray T)):=(Below.refl _ _).alloc (Nat.le_refl _) _
 have h2:=Ext.below (M:=M) hb
 have Co:Ext M w (fun b o=>M b o∨b=w.heap.size) (w.alloc (.cells zs.toArray T)):=by
  refine ⟨h2.size,fun a v hc hm=>⟨fun hx=> ?_,(h2.keep a v hc hm).2⟩,fun b o ho hp hm=>⟨fun hx=> ?_,(h2.obj b o ho hp hm).2⟩⟩
  ·
   rcases hx with hx|hx
   · exact hm hx
   · have:=CN hc;omega
  ·
   rcases hx with hx|hx
   · exact hm hx
   · subst hx;simp at ho
 have hs1:(w.alloc (.cells zs.toArray T)).heap.size=w.heap.size+1:=by simp
 have hat:(SR.at_ (a.put o.dst (.pointer (some ⟨w.heap.size,0,none⟩))) ⟨d,DZ T (zs.map is)⟩)=AB true w.heap.size T (zs.map is):=by unfold SR.at_ Slot.val;dsimp only;rw [hd,A8 (by rw [Ib];exact hn)];rfl
 refine ⟨fun b o=>M b o∨b=w.heap.size,⟨_,rfl⟩,Co,?_⟩
 rw [hat]
 refine hI.replace hj Co hb.os hb.tape hb.output (fun k hk _=>hb.block k hk) rfl (fun b o hm _=> .inl hm) (fun b o hx=> ?_) ?_ rfl (fun b hbk=> ?_)
 ·
  rcases hx with hx|hx
  · have:=hI.bd _ _ hx;omega
  · omega
 · refine ⟨fun o=> .inr rfl,zs,heap_alloc_new w _,HV _ _ _,h1⟩
 ·
  have Cr:some w.heap.size=some b:=hbk
  injection Cr with e1
  subst e1
  exact ⟨by rw [hs1];omega,.inr (Nat.le_refl _)⟩
theorem Im {t:TypeId} {s:Tmp} {y:Operand} {j m:Nat} {T:TypeId} {ps qs:List Pr} (hg:o.guard=none) (hd:o.dst=none) (ho:o.op= .store t (.tmp s) y) (hx:E.lookup s=some (Cp.ex fun b=>ptr b 0)) (hy:VL E y (B0 qs))
  (hz:Af P t=some m) (hm:qs.length=m) (hl:ps.length=m):Cd P M0 w0 S n j ⟨s,DZ T ps⟩ ⟨s,DZ T qs⟩ o E any:=by
 refine ⟨hg,fun M w a rs hsz he hI hj=> ?_⟩
 have hxv:VL E (.tmp s) (Cp.ex fun b=>ptr b 0):=⟨_,hx,Pr.le_refl _⟩
 obtain ⟨b,h1'⟩:=hxv.ev he (show (Operand.tmp s)∈o.op.operands.toList by simp [ho,Op.operands])
 have h1:a.eval (.tmp s)= .pointer (some ⟨b,0,none⟩):=h1'
 have h1t:a.tmps.getD s undef= .pointer (some ⟨b,0,none⟩):=h1
 have hj':rs[j]? =some (AB true b T ps):=by
  rw [hj];show some (DZ T ps (a.tmps.getD s undef))=_;rw [h1t];rfl
 obtain ⟨h2,h3⟩:=hy.ev he (show y∈o.op.operands.toList by simp [ho,Op.operands])
 obtain ⟨⟨_,cs,h4,h5,h6⟩,_⟩:=hI.hold _ (List.mem_of_getElem? hj')
 have eF:=h5.length
 have YS:=h2.length
 have hcells:(a.eval y).cells.size=m:=by rw [←hm,←YS];simp
 have hrun:(storeCells ⟨b,0,none⟩ (a.eval y).cells.toList 0).run P w= .ok () (w.setRow b (cs.take 0++(a.eval y).cells.toList++cs.drop (0+m)).toArray):=by
  have:=run_storeCells_at (P:=P) b 0 T (a.eval y).cells.toList 0 cs.toArray w h4 (by simp;omega) h3
  simpa [hcells] using this
 have fZ:cs.drop (0+m)=[]:=List.drop_eq_nil_of_le (by omega)
 rw [fZ,List.take_zero,List.nil_append,List.append_nil] at hrun
 have DC:(execOp a.eval o).run P w= .ok .skip (w.setRow b (a.eval y).cells.toList.toArray):=by
  simp only [execOp,ho,h1,Instr.storeAt,Instr.sureAddr,storeVar]
  simp [BT hz,hcells,hrun]
 rw [DC]
 obtain ⟨h7,h8⟩:=An.write (qs:=qs) (cs:=(a.eval y).cells.toList) hI hj' h2 h3
 refine ⟨M,trivial,h8,?_⟩
 have hat:(SR.at_ (a.put o.dst undef) ⟨s,DZ T qs⟩)=AB true b T qs:=by
  rw [hd];show DZ T qs (a.tmps.getD s undef)=_;rw [h1t];rfl
 rw [hat];exact h7
theorem Fin.Rt {Q:Exit→Act→World→Prop} {x:Exit} (s j:Nat) {v:Value} {f:Value→Aa} (g:Nat→Aa) (hs:E.lookup s=some (AZ v (Cp.ex fun b=>ptr b 0))) (hi:rs[j]? =some (f v)) (hf:∀b,f (.pointer (some ⟨b,0,none⟩))=g b)
  (k:∀b,Fin n ((s,ptr b 0)::E) (Hp M0 w0 S (rs.set j (g b))) Q x):Fin n E (Hp M0 w0 S rs) Q x:=by
 intro a w hst
 obtain ⟨M,h1,h2,he,h4⟩:=hst
 obtain ⟨h5,b,h6⟩:=he s _ hs
 have hv:v= .pointer (some ⟨b,0,none⟩):=by rw [←h5];exact h6
 have hj:rs.set j (g b)=rs:=by
  have hjl:j<rs.length:=by rcases Nat.lt_or_ge j rs.length with h|h;exact h;rw [List.getElem?_eq_none h] at hi;cases hi
  rw [←hf b,←hv]
  rw [List.getElem?_eq_getElem hjl] at hi
  simp at hi
  rw [←hi,List.set_getElem_self]
 refine k b a w ⟨M,h1,h2,?_,by rw [hj];exact h4⟩
 intro t q hq
 simp only [List.lookup] at hq
 by_cases ht:t=s
 · subst ht;simp at hq;subst hq;exact h6
 · rw [show (t==s)=false by simpa using ht] at hq;exact he t q hq
end
section
variable {P:Program} {L:Lg P} {n:Fm} {fz:Nat} {E:Env} {M0:Av} {w0:World} {S:Nat→Prop} {rs:List Aa} {o:Oper}
def B1 (e:TypeId) (sz:Nat) (rows:List (List Pr)) (v:Value):Aa where
 blk:=match v with| .slice (some a) _ _=>some a.block|_=>none
 new:=true
 h M w:=(rows=[]∧v= .slice none 0 0)∨(CC e sz rows v).h M w
 st M w M' w' he hk h:=h.imp id fun h=>(CC e sz rows v).st M w M' w' he hk h
theorem Tr.Z_ {Q:Exit→Act→World→Prop} {c:Code} (e:TypeId) (sz:Nat) (k:Tr L n E (Hp M0 w0 S (B1 e sz [] (.slice none 0 0)::rs)) c Q):Tr L n E (Hp M0 w0 S rs) c Q:=
 Tr.conv (fun _ _ ⟨M,h1,h2,h3,h4⟩=>⟨M,h1,h2,h3,An.Gz h4 (r:=B1 e sz [] (.slice none 0 0)) rfl (Or.inl ⟨rfl,rfl⟩)⟩) k
theorem W_ {M:Av} {w:World} {t ty e:TypeId} {sz bytes:Nat} {zs:List Value} {rows rows':List (List Pr)} {v u:Value} {j:Nat} (ht:P.underlying t=some (.slice e)) (hz:Af P e=some sz) (hby:BZ P e=some bytes) (DO:Ax P e=some zs) (hzl:zs.length=sz) (hone:zs.all (·.oneCell')=true) (hsz:0<sz)
  (h:An M0 w0 S rs M w) (hj:rs[j]? =some (B1 e sz rows v)) (hl:∀r∈rows,r.length=sz) (hu:(slice sz rows').h M w u) (hpos:0<rows'.length) (Er:rows.length+rows'.length≤maxLen) (hfit:(rows.length+rows'.length)*bytes≤140737488355328):
  ∃v' w' M',(Builtin.append_ #[t,t] ty #[v,u]).run P w= .ok v' w'∧(lens (rows.length+rows'.length)).h M' w' v'∧Ext M w M' w'∧An M0 w0 S (rs.set j (B1 e sz (rows++rows') v')) M' w':=by
 have hjl:j<rs.length:=by rcases Nat.lt_or_ge j rs.length with h|h;exact h;rw [List.getElem?_eq_none h] at hj;cases hj
 rcases (h.hold _ (List.mem_of_getElem? hj)).1 with ⟨rfl,rfl⟩|aA
 ·
  have h1:=h.CI (r':=BA) hj rfl rfl trivial
  have ck:(rs.set j BA)[j]? =some BA:=List.getElem?_set_self hjl
  obtain ⟨v',w',M',hrun,h2,h3,h4⟩:=W6 (ty:=ty) ht hz hby DO hzl hone hsz h1 ck hu hpos (by simpa using Er) (by simpa using hfit)
  rw [List.set_set] at h4
  have h5:=h4.CI (r':=B1 e sz ([]++rows') v') (List.getElem?_set_self hjl) rfl rfl (.inr (h4.hold _ (List.mem_of_getElem? (List.getElem?_set_self hjl))).1)
  rw [List.set_set] at h5
  exact ⟨v',w',M',hrun,by simpa using h2,h3,h5⟩
 ·
  obtain ⟨b,cap,spare,rfl,hnc,hcm,hsp,Tu⟩:=aA
  have hC:=h.CI (r':=AB true b e (rows.flatten++spare.map is)) hj rfl rfl Tu
  have j5:(rs.set j (AB true b e (rows.flatten++spare.map is)))[j]? =some (AB true b e (rows.flatten++spare.map is)):=List.getElem?_set_self hjl
  obtain ⟨⟨hMb,cs,Yo,hcs,Tv⟩,cN⟩:=hC.hold _ (List.mem_of_getElem? j5)
  have hfl:=Bv hl
  have YY:=hcs.length
  rw [List.length_append,hfl,List.length_map,hsp,←Nat.add_mul,show rows.length+(cap-rows.length)=cap by omega] at YY
  unfold Af at hz
  unfold BZ at hby
  unfold Ax at DO
  cases hi:P.info? e with
  |none=>rw [hi] at hz;cases hz
  |some i=>
   rw [hi] at hz hby DO
   simp only [Option.map_some,Option.some.injEq,Option.map_eq_some_iff] at hz hby DO
   obtain ⟨z,Qf,DO⟩:=DO
   have TN:z.cells.size=sz:=by rw [←hzl,←DO];simp
   obtain ⟨A',c',rfl,ZQ,O0,V7,ER⟩:=hu
   have MK:(slice sz rows').h M w (.slice A' rows'.length c'):=⟨A',c',rfl,ZQ,O0,V7,ER⟩
   obtain ⟨LZ,rfl⟩:∃LZ,A'=some LZ:=by
    obtain ⟨_,b,hb,_⟩:=ER 0 _ (List.getElem?_eq_getElem hpos)
    exact ⟨b,hb⟩
   obtain ⟨news,Ln,hcell⟩:=Dt hsz MK
   have Tw:=Ln.1
   have hnews:=Ln.hl hsz
   have hT:HL M w rows.flatten (cs.take (rows.length*sz)):=by
    have:=hcs.take (rows.length*sz)
    rwa [←hfl,List.take_left,hfl] at this
   have hne:(.slice (some ⟨b,0,none⟩) (rows++rows').length cap:Value)= .slice (some ⟨b,0,none⟩) (rows.length+rows'.length) cap:=by rw [List.length_append]
   by_cases hroom:rows.length+rows'.length≤cap
   ·
    have hle:(rows.length+rows'.length)*sz≤cap*sz:=Nat.mul_le_mul_right sz hroom
    rw [Nat.add_mul] at hle
    have hrun:=run_append_room (P:=P) (w:=w) t ty e i ht hi b rows.length cap cs.toArray Yo LZ rows'.length c' news (by rw [hz];exact Tw) (fun k u hk=>(hcell k u hk).1) Ln.2.1 hroom (by rw [hz,Tw];simp;omega)
    rw [hz,Tw] at hrun
    have hD:HL M w ((spare.drop (rows'.length*sz)).map is) (cs.drop (rows.length*sz+rows'.length*sz)):=by
     have:=hcs.drop (rows.length*sz+rows'.length*sz)
     have e1:(rows.flatten++spare.map is).drop (rows.length*sz+rows'.length*sz)=(spare.drop (rows'.length*sz)).map is:=by rw [←hfl,←List.drop_drop,List.drop_left,List.map_drop]
     rwa [e1] at this
    obtain ⟨hW,hX⟩:=An.write (qs:=rows.flatten++rows'.flatten++(spare.drop (rows'.length*sz)).map is) (cs:=cs.take (rows.length*sz)++news++cs.drop (rows.length*sz+rows'.length*sz)) hC j5 ((hT.app hnews).app hD) (fun c hc=>by
     simp only [List.mem_append] at hc
     rcases hc with (hc|hc)|hc
     · exact Tv c (List.mem_of_mem_take hc)
     · exact Ln.2.1 c hc
     · exact Tv c (List.mem_of_mem_drop hc))
    rw [List.set_set] at hW
    refine ⟨_,_,M,hrun,⟨_,_,rfl⟩,hX,?_⟩
    have hW2 := hW.CI (r' := B1 e sz (rows ++ rows') (.slice (some ⟨b, 0, none⟩) (rows.length + rows'.length) cap)) (List.getElem?_set_self hjl) rfl rfl (.inr ⟨b, cap, spare.drop (rows'.length * sz), hne.symm, by rw [List.length_append]; exact hroom, hcm, by
     rw [List.length_drop,hsp,List.length_append,←Nat.sub_mul];congr 1;omega,by
     rw [List.flatten_append];exact (hW.hold _ (List.mem_of_getElem? (List.getElem?_set_self hjl))).1⟩)
    rw [List.set_set] at hW2
    exact hW2
   ·
    have hg:cap<rows.length+rows'.length:=by omega
    have holds:∀k u,(cs.take (rows.length*sz))[k]? =some u→w.cell? ((⟨b,0,none⟩:Addr).add k)=some u:=by
     intro k u hk
     have hk2:cs[k]? =some u:=by
      rw [List.getElem?_take] at hk
      split at hk
      · exact hk
      · cases hk
     rw [DW]
     simp [World.cell?,Yo,hk2]
    have hto:(cs.take (rows.length*sz)).length=rows.length*sz:=by rw [List.length_take,YY];exact Nat.min_eq_left (Nat.mul_le_mul_right sz hnc)
    have hrun:=run_append_grow (P:=P) (w:=w) t ty e i z ht hi Qf ⟨b,0,none⟩ rows.length cap (cs.take (rows.length*sz)) (by rw [hz];exact hto) holds LZ rows'.length c' news (by rw [hz];exact Tw) (fun k u hk=>(hcell k u hk).1) hg (by unfold maxLen at Er;omega) (by rw [hby];exact growslice_fits hg hfit)
    generalize hcap:grownCap w (rows.length+rows'.length) cap e=cap' at hrun
    have hge:rows.length+rows'.length≤cap':=by rw [←hcap];exact grownCap_ge _ _ _ _
    have hle:cap'≤maxLen:=by rw [←hcap];exact grownCap_le_maxLen _ _ _ _ Er
    generalize LI:Builtin.zeroCells z.cells (cap'-(rows.length+rows'.length))=zc at hrun
    have hzs:zc.size=(cap'-(rows.length+rows'.length))*sz:=by rw [←LI,size_zeroCells,TN]
    have fY:∀c∈zc.toList,c.oneCell'=true:=by rw [←LI];exact Ez DO hone
    generalize aB:((cs.take (rows.length*sz)).toArray++news.toArray++zc)=arr at hrun
    have E5:arr.toList=cs.take (rows.length*sz)++news++zc.toList:=by rw [←aB];simp
    have hb:Below w.heap.size w (w.drew.alloc (.cells arr e)):=((Below.refl _ _).drew).alloc (Nat.le_refl _) _
    have h2:=Ext.below (M:=M) hb
    have Co:Ext M w (fun b o=>M b o∨b=w.heap.size) (w.drew.alloc (.cells arr e)):=by
     refine ⟨h2.size,fun a v hc hm=>⟨fun hx=> ?_,(h2.keep a v hc hm).2⟩,fun b o ho hp hm=>⟨fun hx=> ?_,(h2.obj b o ho hp hm).2⟩⟩
     ·
      rcases hx with hx|hx
      · exact hm hx
      · have:=CN hc;omega
     ·
      rcases hx with hx|hx
      · exact hm hx
      · subst hx;simp at ho
    have hs1:(w.drew.alloc (.cells arr e)).heap.size=w.heap.size+1:=by simp
    refine ⟨_,_,fun b o=>M b o∨b=w.heap.size,hrun,⟨_,_,rfl⟩,Co,?_⟩
    refine h.replace hj Co hb.os hb.tape hb.output (fun k hk _=>hb.block k hk) rfl (fun b o hm _=> .inl hm) (fun b o hx=> ?_) ?_ rfl (fun b hbk=> ?_)
    ·
     rcases hx with hx|hx
     · have:=h.bd _ _ hx;omega
     · omega
    ·
     refine .inr ⟨w.heap.size,cap',zc.toList,by rw [List.length_append],by rw [List.length_append];exact hge,hle,by rw [List.length_append];simpa using hzs,fun o=> .inr rfl,arr.toList,?_,?_,?_⟩
     ·
      have hh:(w.drew.alloc (.cells arr e)).heap[w.heap.size]? =some (.cells arr e (0,0)):=heap_alloc_new w.drew _
      rw [hh]
     · rw [E5,List.flatten_append];exact ((hT.st Co).app ((Ln.st Co).hl hsz)).app (HV _ _ _)
     ·
      intro c hc
      rw [E5] at hc
      simp only [List.mem_append] at hc
      rcases hc with (hc|hc)|hc
      · exact Tv c (List.mem_of_mem_take hc)
      · exact Ln.2.1 c hc
      · exact fY c hc
    ·
     have Cr:some w.heap.size=some b:=hbk
     injection Cr with e1
     subst e1
     exact ⟨by rw [hs1];omega,.inr (Nat.le_refl _)⟩
theorem FC {t e:TypeId} {x y:Operand} {sz bytes d:Nat} {zs:List Value} {rows rows':List (List Pr)} {v:Value} {p:Pr} {j:Nat} (hg:o.guard=none) (hd:o.dst=some d) (hn:d<n) (ho:o.op= .call { callee:= .builtin .append,args:= #[x,y],argTypes:= #[t,t] })
  (ht:P.underlying t=some (.slice e)) (hz:Af P e=some sz) (hby:BZ P e=some bytes) (DO:Ax P e=some zs) (hzl:zs.length=sz) (hone:zs.all (·.oneCell')=true) (hsz:0<sz)
  (hx:VL E x (AZ v p)) (hy:VL E y (slice sz rows')) (hl:∀r∈rows,r.length=sz) (hpos:0<rows'.length) (Er:rows.length+rows'.length≤maxLen) (hfit:(rows.length+rows'.length)*bytes≤140737488355328):Cd P M0 w0 S n j (SR.c (B1 e sz rows v)) ⟨d,B1 e sz (rows++rows')⟩ o E (lens (rows.length+rows'.length)):=by
 refine ⟨hg,fun M w a rs Ib he hI hj=> ?_⟩
 have h1:a.eval x=v:=(hx.ev he (by simp [ho,Op.operands,Call.operands])).1
 have h2:=hy.ev he (by simp [ho,Op.operands,Call.operands])
 obtain ⟨v',w',M',hrun,h3,h4,h5⟩:=W_ (ty:=o.type) ht hz hby DO hzl hone hsz hI hj hl h2 hpos Er hfit
 have DC:(execOp a.eval o).run P w= .ok (.value v') w':=by simp [execOp,ho,resolve,invoke,builtin,h1,hrun]
 rw [DC]
 refine ⟨M',h3,h4,?_⟩
 have:(SR.at_ (a.put o.dst v') ⟨d,B1 e sz (rows++rows')⟩)=B1 e sz (rows++rows') v':=by unfold SR.at_ Slot.val;dsimp only;rw [hd,A8 (by rw [Ib];exact hn)]
 rw [this];exact h5
theorem An.fc {M:Av} {w:World} {sz:Nat} {e:TypeId} {rows:List (List Pr)} {v:Value} {j:Nat} (h:An M0 w0 S rs M w) (hj:rs[j]? =some (B1 e sz rows v)) (hl:∀r∈rows,r.length=sz):
  ∃M',Ext M w M' w∧An M0 w0 S (rs.set j (As e sz v)) M' w∧(slice sz rows).h M' w v:=by
 have hjl:j<rs.length:=by rcases Nat.lt_or_ge j rs.length with h|h;exact h;rw [List.getElem?_eq_none h] at hj;cases hj
 rcases (h.hold _ (List.mem_of_getElem? hj)).1 with ⟨rfl,rfl⟩|aA
 · exact ⟨M,Ext.refl _ _,h.CI hj rfl rfl (by intro a n c hv;cases hv),AL sz M w _ rfl⟩
 ·
  obtain ⟨b,cap,spare,rfl,hnc,hcm,hsp,Tu⟩:=aA
  have hC:=h.CI (r':=AB true b e (rows.flatten++spare.map is)) hj rfl rfl Tu
  obtain ⟨M',h1,h2,h3⟩:=An.cZ hC (List.getElem?_set_self hjl) hl hnc hcm (by rw [List.length_map];exact hsp)
  rw [List.set_set] at h2
  exact ⟨M',h1,h2,h3⟩
end
section
variable {P:Program} {L:Lg P} {n:Fm} {fz:Nat} {E:Env} {M0:Av} {w0:World} {S:Nat→Prop} {rs:List Aa} {o:Oper} {ops:Array Oper} {r:List Oper}
def ff (P:Program) (f:FuncId) (args:List Pr) (res:Pr) (r:Aa) (r':Aa) (r2:Aa):Prop:=Entry P f∧∀M0 w0 S rs M w vs,An M0 w0 S (r::r2::rs) M w→HL M w args vs→
 Calls P f vs.toArray w fun e w'=>∃v M',e= .returned v∧res.h M' w' v∧Ext M w M' w'∧An M0 w0 S (r'::r2::rs) M' w'
theorem ff.of {f : FuncId} {g : Func} {c : Code} {ps : List Pr} {res : Pr} {R R' R2 : Aa} (hf : P.funcs[f]? = some g) (hb : g.body = some c) (hname : (g.name == "runtime.NumGoroutine") = false) (hlen : ps.length ≤ g.ntmps)
  (h:∀M0 w0 S rs M1 w1,Tr (QT P) g.ntmps (Gw 0 ps) (Hp M0 w0 S (R::AX M1 w1::R2::rs)) c (bodyPost P g (J7 M0 w0 S (R2::rs) M1 w1 res (fun _=>R')))):ff P f ps res R R' R2:=by
 refine ⟨⟨g,hf,hname,by rw [hb];rfl⟩,fun M0 w0 S rs M w vs hI hv=> ?_⟩
 refine calls_of_wp hf hb (h M0 w0 S rs M w _ _ ⟨M,?_,rfl,Dn hv,?_⟩)
 ·
  have:=hv.length
  simp [this];omega
 · exact An.perm (List.Perm.swap _ _ _) (An.Gz hI (r:=AX M w) rfl (Ext.refl _ _))
end
abbrev G9 (k:IntKind):Pr:=Cp.ex fun i:Int=>is (.int k i)
theorem Bg (k:IntKind) (i:Int):Pr.le (is (.int k i)) (G9 k):=fun _ _ _ h=>⟨i,h⟩
section
variable {P:Program} {L:Lg P} {I:Bn} {o:Oper} {E:Env}
theorem XA {op:BinOp} {t u:TypeId} {x y:Operand} {k:IntKind} (hop:(op== .xor||op== .or)=true) (ho:o.op= .binOp op t x y u) (hx:VL E x (G9 k)) (hy:VL E y (G9 k)):AH P I o E (G9 k):=
 AH.same fun M w a he _=>by
  obtain ⟨m,h1⟩:=hx.ev he (by simp [ho,Op.operands])
  obtain ⟨n,h2⟩:=hy.ev he (by simp [ho,Op.operands])
  have h1:a.eval x= .int k m:=h1
  have h2:a.eval y= .int k n:=h2
  cases op<;>simp at hop<;>exact ⟨_,by simp [execOp,ho,h1,h2,eqGuard,binOp,Op.intBits];rfl,_,rfl⟩
end
theorem Lp {β:Type} {f:β→List Pr} {l:List β} {qs:List Pr} {sz:Nat} (hf:∀x,(f x).length=sz) {i:Int} (h:i.toNat<l.length):((((l.map f).flatten++qs).drop (0+i.toNat*sz)).take sz)=f (l[i.toNat]'h):=by
 rw [Nat.zero_add];exact Tt hf (List.getElem?_eq_getElem h)
theorem KV {β:Type} {f:β→List Pr} {sz:Nat} (hf:∀x,(f x).length=sz) {l:List β} {qs:List Pr} {i:Int} {x:β} (h:i.toNat<l.length):((l.map f).flatten++qs).take (0+i.toNat*sz)++f x++((l.map f).flatten++qs).drop (0+i.toNat*sz+sz)=((l.set i.toNat x).map f).flatten++qs:=by
 rw [Nat.zero_add];exact Ll hf h
theorem KW {β:Type} {l:List β} {i j:Int} (hi:i.toNat<l.length) (hj:j.toNat<l.length):((l.set i.toNat (l[j.toNat]'hj)).set j.toNat (l[i.toNat]'hi)).Perm l:=List.set_set_perm hi hj
section
variable {P:Program} {L:Lg P} {n:Fm} {fz:Nat} {E:Env} {M0:Av} {w0:World} {S:Nat→Prop} {rs:List Aa} {o:Oper} {β:Type} {b:Nat} {e:TypeId} {f:β→List Pr} {qs:List Pr} {Φ:List β→Prop}
instance (priority:=300) fk (b:Bool) (p:Prop) [h:C5 b false p]:C5 (!b) true p:=⟨fun e=>h.Di (by simpa using e)⟩
instance (priority:=300) fm (b:Bool) (p:Prop) [h:C5 b true p]:C5 (!b) false p:=⟨fun e=>h.Di (by simpa using e)⟩
end
end Cp
namespace Cp
open Go.Sort
section
variable {β:Type} [Inhabited β] {c:β×β→Int} {st:List β} {a b i j:Int}
def cq (c:β×β→Int) (x y:β):Bool:=decide (c (x,y)<0)
theorem gx (h:i.toNat<st.length):st.toArray[i.toNat]! =st[i.toNat]:=by simp [h]
theorem sw (hi:i.toNat<st.length) (hj:j.toNat<st.length):((st.set i.toNat (st[j.toNat]'hj)).set j.toNat (st[i.toNat]'hi)).toArray=swp st.toArray i.toNat j.toNat:=by
 unfold swp
 rw [gx hi,gx hj]
 simp [Array.setIfInBounds_def,hi,hj]
omit [Inhabited β] in
theorem fq {x y:β} (h:¬c (x,y)<0):cq c x y=false:=decide_eq_false h
variable {hi F r:Int}
variable {lt:β→β→Bool} {a0 b0 m n:Nat} {l s s':Array β}
structure PS (lt:β→β→Bool) (a0 b0 a b:Nat) (l s:Array β):Prop where
 ha:a0≤a
 hab:a≤b
 hb:b≤b0
 hp:PermIn a0 b0 l s
 below:Below lt a b s
 out:∀i j,a0≤i→i<j→j<b0→(i<a∨b≤j)→lt s[j]! s[i]! =false
theorem PS.perm (h:PS lt a0 b0 m n l s) (hs:b0≤l.size) (hq:PermIn m n s s'):PS lt a0 b0 m n l s':=by
 have hsz:s.size=l.size:=h.hp.1
 have YX:n≤s.size:=by have:=h.hb;omega
 refine ⟨h.ha,h.hab,h.hb,permIn_trans _ _ _ _ _ h.hp (permIn_mono _ _ _ _ _ _ h.ha h.hb (by omega) hq),Below.permA permIn_all YX h.below hq,fun i j h1 h2 h3 h4=> ?_⟩
 have hm:=h.hab
 by_cases hi:m≤i∧i<n
 ·
  have hj:n≤j:=by omega
  rw [hq.2.1 j (.inr hj)]
  exact permIn_all s s' m n (fun x=>lt s[j]! x=false) YX hq (fun k hk1 hk2=>h.out k j (by have:=h.ha;omega) (by omega) h3 (.inr hj)) i hi.1 hi.2
 ·
  rw [hq.2.1 i (by omega)]
  by_cases hj:m≤j∧j<n
  · exact permIn_all s s' m n (fun x=>lt x s[i]! =false) YX hq (fun k hk1 hk2=>h.out i k h1 (by omega) (by have:=h.hb;omega) (.inl (by omega))) j hj.1 hj.2
  · rw [hq.2.1 j (by omega)];exact h.out i j h1 h2 h3 h4
theorem PS.done (h:PS lt a0 b0 m n l s) (hs:SortedIn lt m n s):PermIn a0 b0 l s∧SortedIn lt a0 b0 s:=by
 refine ⟨h.hp,fun i j h1 h2 h3=> ?_⟩
 by_cases hh:i<m∨n≤j
 · exact h.out i j h1 h2 h3 hh
 · exact hs i j (by omega) h2 (by omega)
theorem PS.eq (hw:SWO lt) (h:PS lt a0 b0 m n l s) (hs:b0≤l.size) {pv:β} {k:Nat} (hm:0<m) (TC:lt s[m-1]! pv=false) (hk:m<k) (hkn:k≤n) (hq:PermIn m n s s') (h1:∀i,m≤i→i<k→lt pv s'[i]! =false) (h2:∀i,k≤i→i<n→lt pv s'[i]! =true):
  PS lt a0 b0 k n l s':=by
 have h':=h.perm hs hq
 have hle:∀j,m≤j→j<n→lt s'[j]! pv=false:=by
  intro j ck hj2
  by_cases hjk:k≤j
  · exact hw.asym (h2 j hjk hj2)
  ·
   have hb:=h'.below
   rcases hb with hb|hb
   · omega
   ·
    have hb:=hb j ck hj2
    rw [hq.2.1 (m-1) (.inl (by omega))] at hb
    exact hw.ntrans _ _ _ hb TC
 have key:∀i j,m≤i→i<k→m≤j→j<n→lt s'[j]! s'[i]! =false:=fun i j ha hb hc hd=>hw.ntrans _ _ _ (hle j hc hd) (h1 i ha hb)
 refine ⟨by have:=h.ha;omega,hkn,h.hb,h'.hp,.inr fun i hi1 hi2=>key (k-1) i (by omega) (by omega) (by omega) hi2,fun i j g1 g2 g3 g4=> ?_⟩
 by_cases hh:i<m∨n≤j
 · exact h'.out i j g1 g2 g3 hh
 · exact key i j (by omega) (by omega) (by omega) (by omega)
structure Tx (lt:β→β→Bool) (m n k:Nat) (s:Array β):Prop where
 h1:m≤k
 h2:k<n
 lo:∀i,m≤i→i<k→lt s[i]! s[k]! =true
 up:∀i,k<i→i<n→lt s[i]! s[k]! =false
theorem PS.left (hw:SWO lt) {k:Nat} (h:PS lt a0 b0 m n l s) (hs:b0≤l.size) (hp:Tx lt m n k s) (hq:PermIn m k s s') (j6:SortedIn lt m k s'):PS lt a0 b0 (k+1) n l s':=by
 obtain ⟨h1,h2,lo,up⟩:=hp
 have hsz:s.size=l.size:=h.hp.1
 have hks:k≤s.size:=by have:=h.hb;omega
 have Rl:PermIn m n s s':=permIn_mono _ _ _ _ _ _ (Nat.le_refl _) (by omega) (by have:=h.hb;omega) hq
 have h':=h.perm hs Rl
 have ek:s'[k]! =s[k]! :=hq.2.1 k (.inr (Nat.le_refl _))
 have lo':∀i,m≤i→i<k→lt s'[i]! s[k]! =true:=fun i g1 g2=>permIn_all s s' m k (fun x=>lt x s[k]! =true) hks hq lo i g1 g2
 have up':∀i,k<i→i<n→lt s'[i]! s[k]! =false:=fun i g1 g2=>by rw [hq.2.1 i (.inr (by omega))];exact up i g1 g2
 refine ⟨by have:=h.ha;omega,by omega,h.hb,h'.hp,.inr fun i g1 g2=> ?_,fun i j g1 g2 g3 g4=> ?_⟩
 · rw [show k+1-1=k by omega,ek];exact up' i (by omega) g2
 ·
  by_cases hh:i<m∨n≤j
  · exact h'.out i j g1 g2 g3 hh
  ·
   rcases Nat.lt_trichotomy i k with hik|hik|hik
   ·
    rcases Nat.lt_trichotomy j k with hjk|hjk|hjk
    · exact j6 i j (by omega) g2 hjk
    · subst hjk;rw [ek];exact hw.asym (lo' i (by omega) hik)
    · exact hw.ntrans _ _ _ (up' j hjk (by omega)) (hw.asym (lo' i (by omega) hik))
   · subst hik;rw [ek];exact up' j g2 (by omega)
   · omega
theorem PS.right (hw:SWO lt) {k:Nat} (h:PS lt a0 b0 m n l s) (hs:b0≤l.size) (hp:Tx lt m n k s) (hq:PermIn (k+1) n s s') (j6:SortedIn lt (k+1) n s'):PS lt a0 b0 m k l s':=by
 obtain ⟨h1,h2,lo,up⟩:=hp
 have hsz:s.size=l.size:=h.hp.1
 have YX:n≤s.size:=by have:=h.hb;omega
 have Rl:PermIn m n s s':=permIn_mono _ _ _ _ _ _ (by omega) (Nat.le_refl _) YX hq
 have h':=h.perm hs Rl
 have ek:s'[k]! =s[k]! :=hq.2.1 k (.inl (by omega))
 have lo':∀i,m≤i→i<k→lt s'[i]! s[k]! =true:=fun i g1 g2=>by rw [hq.2.1 i (.inl (by omega))];exact lo i g1 g2
 have up':∀i,k<i→i<n→lt s'[i]! s[k]! =false:=fun i g1 g2=>permIn_all s s' (k+1) n (fun x=>lt x s[k]! =false) YX hq (fun i q1 q2=>up i (by omega) q2) i (by omega) g2
 refine ⟨h.ha,h1,by have:=h.hb;omega,h'.hp,?_,fun i j g1 g2 g3 g4=> ?_⟩
 ·
  rcases h'.below with hb|hb
  · exact .inl hb
  · exact .inr fun i q1 q2=>hb i q1 (by omega)
 ·
  by_cases hh:i<m∨n≤j
  · exact h'.out i j g1 g2 g3 hh
  ·
   rcases Nat.lt_trichotomy i k with hik|hik|hik
   ·
    rcases Nat.lt_trichotomy j k with hjk|hjk|hjk
    · omega
    · subst hjk;rw [ek];exact hw.asym (lo' i (by omega) hik)
    · exact hw.ntrans _ _ _ (up' j hjk (by omega)) (hw.asym (lo' i (by omega) hik))
   · subst hik;rw [ek];exact up' j g2 (by omega)
   · exact j6 i j (by omega) g2 (by omega)
end
section
variable {β:Type} [Inhabited β] {c:β×β→Int} {st:List β}
def mu (c:β×β→Int) (a b:Int) (l:List β):Prop:=∀k,a.toNat<k→k<b.toNat→cq c l.toArray[k]! l.toArray[k-1]! =false
theorem mu.go {a i k:Int} (h:mu c a i st) (h0:0≤a) (ha:a<i) (hk:k=i-1) (hi:i.toNat<st.length) (hk':k.toNat<st.length) (hc:0≤c (st[i.toNat]'hi,st[k.toNat]'hk')):mu c a (i+1) st:=fun m h1 h2=>by
 rcases Nat.lt_or_ge m i.toNat with hm|hm
 · exact h m h1 hm
 ·
  have e:m=i.toNat:=by omega
  subst e
  rw [show i.toNat-1=k.toNat by omega,gx hi,gx hk'];exact fq (by omega)
end
section
variable {β:Type} [Inhabited β]
def Fo (a b:Int) (l st:List β):Prop:=PermIn a.toNat b.toNat l.toArray st.toArray
def Yp (c:β×β→Int) (a b:Int) (l st:List β):Prop:=PermIn a.toNat b.toNat l.toArray st.toArray∧SortedIn (cq c) a.toNat b.toNat st.toArray
theorem Fo.len {a b:Int} {l st:List β} (h:Fo a b l st):st.length=l.length:=by have:=h.1;simpa using this
theorem Yp.len {c:β×β→Int} {a b:Int} {l st:List β} (h:Yp c a b l st):st.length=l.length:=by have:=h.1.1;simpa using this
def Yq (c:β×β→Int) (hi first lo:Int) (l st:List β):Prop:=st.length=l.length∧st.toArray=siftDown (cq c) hi.toNat first.toNat lo.toNat l.toArray
theorem Yq.len {c:β×β→Int} {hi first lo:Int} {l st:List β} (h:Yq c hi first lo l st):st.length=l.length:=h.1
abbrev PE (c:β×β→Int) (a b pv:Int) (l:List β):Nat×Array β:=partitionEqual (cq c) l.toArray a.toNat b.toNat pv.toNat
abbrev PA (c:β×β→Int) (a b pv:Int) (l:List β):Nat×Bool×Array β:=partition (cq c) l.toArray a.toNat b.toNat pv.toNat
def Yr (c:β×β→Int) (a b pv:Int) (l st:List β):Prop:=st.length=l.length∧st.toArray=(PE c a b pv l).2
def Ys (c:β×β→Int) (a b pv:Int) (l st:List β):Prop:=st.length=l.length∧st.toArray=(PA c a b pv l).2.2
theorem Yr.len {c:β×β→Int} {a b pv:Int} {l st:List β} (h:Yr c a b pv l st):st.length=l.length:=h.1
theorem Ys.len {c:β×β→Int} {a b pv:Int} {l st:List β} (h:Ys c a b pv l st):st.length=l.length:=h.1
theorem Fo.refl (a b:Int) (l:List β):Fo a b l l:=permIn_refl _ _ _
theorem Fo.swap {a b i j:Int} {l st:List β} (h:Fo a b l st) (hi:i.toNat<st.length) (hj:j.toNat<st.length) (h1:a.toNat≤i.toNat) (h2:i.toNat<b.toNat) (h3:a.toNat≤j.toNat) (h4:j.toNat<b.toNat) (hb:b.toNat≤l.length):
  Fo a b l ((st.set i.toNat (st[j.toNat]'hj)).set j.toNat (st[i.toNat]'hi)):=by
 unfold Fo
 rw [sw hi hj]
 exact permIn_trans _ _ _ _ _ h (swp_permIn _ _ _ _ _ h1 h2 h3 h4 (by have:=h.len;simp;omega))
theorem Fo.trans {a b:Int} {l m st:List β} (h:Fo a b l m) (k:Fo a b m st):Fo a b l st:=permIn_trans _ _ _ _ _ h k
end
section
open Go
variable {P:Program} {L:Lg P} {n:Fm} {fz:Nat} {E:Env} {M0:Av} {w0:World} {S:Nat→Prop} {rs:List Aa} {new:Bool} {b:Nat} {T:TypeId} {ps:List Pr}
end
end Cp
namespace Cp
open Go Go.RowKit Go.Great
section
variable {P:Program} {L:Lg P} {n:Fm} {fz:Nat} {E:Env} {I:Bn} {Q:Exit→Act→World→Prop}
theorem Tr.Je {α0 α1:Type} (K:Env) (hK:Bc E K) (F:α0→α1→Value→Env) (Ii:α0→α1→Value→Bn) (C:α0→α1→Prop) {x y:Code} (h:Tr L n E I x (Exit.then (fun a w=>∃x0 x1 v0,C x0 x1∧St n (F x0 x1 v0++K) (Ii x0 x1 v0) a w) Q))
  (k:∀x0 x1 v0,C x0 x1→Tr L n (F x0 x1 v0++K) (Ii x0 x1 v0) y Q):Tr L n E I (.seq x y) Q:=
 Tr.cut (fun y:α0×α1×Value=>F y.1 y.2.1 y.2.2++K) (fun y=>Ii y.1 y.2.1 y.2.2) (fun y=>C y.1 y.2.1) (Tr.post h fun e a w h=>by cases e<;>first|exact h|(obtain ⟨x0,x1,v0,h1,h2⟩:=h;exact ⟨(x0,x1,v0),h1,h2⟩)) fun y hy=>k y.1 y.2.1 y.2.2 hy
end
section
variable {P:Program} {L:Lg P} {n:Fm} {fz:Nat} {E:Env} {M0:Av} {w0:World} {S:Nat→Prop} {rs:List Aa} {β:Type} {e:TypeId} {sz:Nat} {f:β→List Pr} {Φ:List β→Prop} {v:Value}
theorem St.XB {rows:List (List Pr)} (j d:Nat) {p:Pr} (hj:rs[j]? =some (B1 e sz rows v)) (hd:E.lookup d=some (AZ v p)) (hf:∀r∈rows,r.length=sz) {a:Act} {w:World} (hs:St n E (Hp M0 w0 S rs) a w):
  St n ((d,AZ v (slice sz rows))::E) (Hp M0 w0 S (rs.set j (As e sz v))) a w:=by
 obtain ⟨M,h1,h2,h3,h4⟩:=hs
 have h4:An M0 w0 S rs M w:=h4
 obtain ⟨M',h6,h7,h8⟩:=An.fc h4 hj hf
 refine ⟨M',h1,h2,fun s q hq=> ?_,h7⟩
 simp only [List.lookup] at hq
 split at hq
 ·
  rename_i e1
  have:s=d:=by simpa using e1
  subst this
  simp only [Option.some.injEq] at hq
  subst hq
  have h9:=(h3 _ _ hd).1
  exact ⟨h9,by rw [h9];exact h8⟩
 · exact q.st _ _ _ _ _ h6 (h3 s q hq)
theorem Tr.XB {Q:Exit→Act→World→Prop} {c:Code} {rows:List (List Pr)} (j d:Nat) {p:Pr} (hj:rs[j]? =some (B1 e sz rows v)) (hd:E.lookup d=some (AZ v p)) (hf:∀r∈rows,r.length=sz)
  (k:Tr L n ((d,AZ v (slice sz rows))::E) (Hp M0 w0 S (rs.set j (As e sz v))) c Q):Tr L n E (Hp M0 w0 S rs) c Q:=
 fun a w hs=>k a w (hs.XB j d hj hd hf)
theorem Ty {rows:List (List Pr)} (h:rows=[]):Pr.le (is (.slice none 0 0)) (AZ (.slice none 0 0) (lens rows.length)):=by
 subst h;exact fun _ _ _ hv=>⟨hv,⟨none,0,by rw [hv];rfl⟩⟩
theorem CE {v:Value} {a b:Nat} (h:a=b):Pr.le (AZ v (lens a)) (AZ v (lens b)):=by subst h;exact Pr.le_refl _
end
section
variable {P:Program} {L:Lg P} {n:Fm} {fz:Nat} {E:Env} {M0:Av} {w0:World} {S:Nat→Prop} {rs:List Aa} {o:Oper}
end
section
variable {P:Program} {L:Lg P} {n:Fm} {fz:Nat} {E:Env} {M0:Av} {w0:World} {S:Nat→Prop} {rs:List Aa} {ε:Type} {res:ε→List Aa}
def V_ (res:ε→List Aa) (es:List ε):List Aa:=es.flatMap res
theorem PF:∀{es:List ε} {k:Nat} {x:ε},es[k]? =some x→(V_ res es).Perm (res x++V_ res (es.eraseIdx k))
 |[],_,_,h=>by simp at h
 |a::es,0,x,h=>by
  simp only [List.getElem?_cons_zero,Option.some.injEq] at h
  subst h
  exact List.Perm.refl _
 |a::es,k+1,x,h=>by
  have ih:=PF (es:=es) (k:=k) (x:=x) (by simpa using h)
  show (res a++V_ res es).Perm (res x++(res a++V_ res (es.eraseIdx k)))
  refine (ih.append_left (res a)).trans ?_
  rw [←List.append_assoc,←List.append_assoc]
  exact List.perm_append_comm.append_right _
theorem St.perm {rs':List Aa} (hp:rs.Perm rs') {a:Act} {w:World} (h:St n E (Hp M0 w0 S rs) a w):St n E (Hp M0 w0 S rs') a w:=by
 obtain ⟨M,h1,h2,h3,h4⟩:=h
 exact ⟨M,h1,h2,h3,An.perm hp h4⟩
theorem Tr.fu {Q:Exit→Act→World→Prop} {c:Code} {e:TypeId} {sz:Nat} {rows:List (List Pr)} {v:Value} (j:Nat) (hj:rs[j]? =some (B1 e sz rows v)) (hne:rows≠[])
  (k:∀(b cap:Nat) (sp:List Value),v= .slice (some ⟨b,0,none⟩) rows.length cap→rows.length≤cap→cap≤maxLen→sp.length=(cap-rows.length)*sz→Tr L n E (Hp M0 w0 S (rs.set j (AB true b e (rows.flatten++sp.map is)))) c Q):Tr L n E (Hp M0 w0 S rs) c Q:=by
 intro a w hs
 obtain ⟨M,h1,h2,h3,h4⟩:=hs
 have h4:An M0 w0 S rs M w:=h4
 rcases (h4.hold _ (List.mem_of_getElem? hj)).1 with ⟨h5,_⟩|⟨b,cap,sp,rfl,h5,h6,h7,h8⟩
 · exact absurd h5 hne
 · exact k b cap sp rfl h5 h6 h7 a w ⟨M,h1,h2,h3,h4.CI hj rfl rfl h8⟩
end
section
variable {P:Program} {L:Lg P} {n:Fm} {fz:Nat} {E:Env} {M0:Av} {w0:World} {S:Nat→Prop} {rs:List Aa} {o:Oper}
end
section
variable {P:Program} {L:Lg P} {n:Fm} {fz:Nat} {E:Env} {M0:Av} {w0:World} {S:Nat→Prop} {rs:List Aa} {o:Oper}
theorem A9.PG {f:FuncId} {e:TypeId} {sz:Nat} {rows:List (List Pr)} {ps:List Pr} {res:Pr} {R:Aa} (h:A9 P f ps res R (fun v=>CC e sz rows v)):A9 P f ps res R (fun v=>B1 e sz rows v):=by
 refine ⟨h.1,fun M0 w0 S rs M w vs hI hv=>(h.2 M0 w0 S rs M w vs hI hv).mono ?_⟩
 rintro e' w' ⟨v,M',rfl,h2,h3,h4⟩
 exact ⟨v,M',rfl,h2,h3,h4.CI (i:=0) rfl rfl rfl (.inr (h4.hold _ (List.mem_cons_self ..)).1)⟩
instance cr (p q:Pr) [KS p] [KS q]:KS (IM [p,q]):=⟨fun M M' w v ⟨cs,h1,h2⟩=>⟨cs,h1,by
 match cs,h2 with
 |[a,b],h2=>exact ⟨KS.free _ _ _ _ h2.1,KS.free _ _ _ _ h2.2.1,trivial⟩⟩⟩
end
section
variable {P:Program} {L:Lg P} {n:Fm} {fz:Nat} {E:Env} {M0:Av} {w0:World} {S:Nat→Prop} {o:Oper}
end
section
variable {P:Program} {L:Lg P} {n:Fm} {fz:Nat} {E:Env} {M0:Av} {w0:World} {S:Nat→Prop} {rs:List Aa} {ε:Type} {res:ε→List Aa}
theorem Tr.fy {Q:Exit→Act→World→Prop} {c:Code} (j:Nat) {new:Bool} {b:Nat} {T:TypeId} {ps:List Pr} (qs:List Pr) (hi:rs[j]? =some (AB new b T ps)) (h:ps=qs) (k:Tr L n E (Hp M0 w0 S (rs.set j (AB new b T qs))) c Q):Tr L n E (Hp M0 w0 S rs) c Q:=by
 subst h;exact Tr.HO j ps hi (J9.rfl' ps) k
theorem Fin.fy {Q:Exit→Act→World→Prop} {e:Exit} (j:Nat) {new:Bool} {b:Nat} {T:TypeId} {ps:List Pr} (qs:List Pr) (hi:rs[j]? =some (AB new b T ps)) (h:ps=qs) (k:Fin n E (Hp M0 w0 S (rs.set j (AB new b T qs))) Q e):Fin n E (Hp M0 w0 S rs) Q e:=by
 subst h;exact Fin.HO j ps hi (J9.rfl' ps) k
end
section
variable {P:Program} {L:Lg P} {n:Fm} {fz:Nat} {E:Env} {M0:Av} {w0:World} {S:Nat→Prop} {o:Oper}
theorem Ni {I:Bn} {t e:TypeId} {x:Operand} {m:Nat} (ho:o.op= .call { callee:= .builtin .len,args:= #[x],argTypes:= #[t] }) (ht:P.underlying t=some (.slice e)) (hx:VL E x (lens m)):AH P I o E (int m):=
 AH.same fun M w a he _=>by
  obtain ⟨A,c,h1⟩:=hx.ev he (by simp [ho,Op.operands,Call.operands])
  exact ⟨.int .i64 m,by simp [execOp,ho,resolve,invoke,builtin,Builtin.len_,h1,run_underlying ht,goInt],rfl⟩
end
end Cp
namespace Cp
open Go Go.RowKit
section
variable {P:Program} {L:Lg P} {I:Bn} {o:Oper} {E:Env}
theorem Rw {c y:Operand} {b d:Bool} (ho:o.op= .pick c (.const (.bool true)) y) (hc:VL E c (bool b)) (hy:VL E y (bool d)):AH P I o E (bool (b||d)):=by
 cases b with
 |true=>exact IV ho hc rfl (vl rfl)
 |false=>exact IW ho hc rfl hy
theorem PI {c x:Operand} {b d:Bool} (ho:o.op= .pick c x (.const (.bool false))) (hc:VL E c (bool b)) (hx:VL E x (bool d)):AH P I o E (bool (b&&d)):=by
 cases b with
 |true=>exact IV ho hc rfl hx
 |false=>exact IW ho hc rfl (vl rfl)
end
section
variable {P:Program} {L:Lg P} {n:Fm} {fz:Nat} {E:Env} {M0:Av} {w0:World} {S:Nat→Prop} {rs:List Aa} {o:Oper}
end
end Cp
namespace Cp
open Go Go.RowKit Go.Great
def Hs {α:Type} (P:Program) (f:FuncId) (args:List Pr) (pre:List Aa) (C:α→Prop) (res:α→Pr) (post:α→List Aa):Prop:=Entry P f∧∀M0 w0 S rs M w vs,An M0 w0 S (pre++rs) M w→HL M w args vs→
 Calls P f vs.toArray w fun e w'=>∃v M' x,e= .returned v∧C x∧(res x).h M' w' v∧Ext M w M' w'∧An M0 w0 S (post x++rs) M' w'
def Lq {α:Type} (M0:Av) (w0:World) (S:Nat→Prop) (rs:List Aa) (M1:Av) (w1:World) (C:α→Prop) (res:α→Pr) (post:α→List Aa) (e:Ending) (w':World):Prop:=∃v M' x,e= .returned v∧C x∧(res x).h M' w' v∧Ext M1 w1 M' w'∧An M0 w0 S (post x++rs) M' w'
section
variable {P:Program} {L:Lg P} {n:Fm} {fz:Nat} {E:Env} {M0:Av} {w0:World} {S:Nat→Prop} {rs:List Aa} {α:Type} {pre:List Aa} {C:α→Prop} {res:α→Pr} {post:α→List Aa} {M1:Av} {w1:World} {g:Func} {o:Oper} {r:List Oper} {ops:Array Oper}
theorem Hs.of {f : FuncId} {c : Code} {ps : List Pr} (hf : P.funcs[f]? = some g) (hb : g.body = some c) (hname : (g.name == "runtime.NumGoroutine") = false) (hlen : ps.length ≤ g.ntmps)
  (h:∀M0 w0 S rs M1 w1,Tr (QT P) g.ntmps (Gw 0 ps) (Hp M0 w0 S (pre++AX M1 w1::rs)) c (bodyPost P g (Lq M0 w0 S rs M1 w1 C res post))):Hs P f ps pre C res post:=by
 refine ⟨⟨g,hf,hname,by rw [hb];rfl⟩,fun M0 w0 S rs M w vs hI hv=> ?_⟩
 refine calls_of_wp hf hb (h M0 w0 S rs M w _ _ ⟨M,?_,rfl,Dn hv,?_⟩)
 ·
  have:=hv.length
  simp [this];omega
 · exact An.perm List.perm_middle.symm (An.Gz hI (r:=AX M w) rfl (Ext.refl _ _))
theorem An.Tz {M:Av} {w:World} {f:FuncId} {args:List Pr} {rest:List Aa} (hf:Hs P f args pre C res post) (hp:rs.Perm (pre++rest)) (hI:An M0 w0 S rs M w) {vs:List Value} (hv:HL M w args vs):
  Calls P f vs.toArray w fun e w'=>∃v M' x,e= .returned v∧C x∧(res x).h M' w' v∧Ext M w M' w'∧An M0 w0 S (post x++rest) M' w':=hf.2 M0 w0 S rest M w vs (An.perm hp hI) hv
theorem TO.Tz {Q:Exit→Act→World→Prop} {f:FuncId} {xs:Array Operand} {ts:Array TypeId} {ps:List Pr} (rest:List Aa) {d:Nat} (hg:o.guard=none) (hd:o.dst=some d) (hn:d<n) (ho:o.op= .call { callee:= .value (.func f),args:=xs,argTypes:=ts }) (hf:Hs P f ps pre C res post)
  (hv:FJ E xs.toList ps) (hp:rs.Perm (pre++rest)) (k:∀x,C x→TO P n ops r ((d,res x)::E) (Hp M0 w0 S (post x++rest)) Q):TO P n ops (o::r) E (Hp M0 w0 S rs) Q:=
 TO.TG hg fun K M w a hsz hdf he hI hK=>by
  have hI:An M0 w0 S rs M w:=hI
  have h1:=FJ.EE (o:=o) (Bo he) (xs:=xs.toList) (fun x hx=>by simp [ho,Op.operands,Call.operands];exact .inr (by simpa using hx)) hv
  have hrun:(execOp a.eval o).run P w= .ok (.enter f (xs.toList.map a.eval).toArray) w:=by
   simp [execOp,ho,resolve,Deferred.ofValue,Act.eval,invoke,DV hf.1,F4 xs]
  unfold Oper.wp
  rw [hrun]
  refine (An.Tz hf hp hI h1).mono ?_
  rintro e w' ⟨v,M',x,rfl,hC,h2,h3,h4⟩
  refine hK _ _ _ _ (k x hC) ⟨M',by rw [BL];exact hsz,by rw [put_defers];exact hdf,?_,h4⟩
  intro s q hq
  simp only [List.lookup] at hq
  by_cases hs:s=d
  · subst hs;simp at hq;subst hq;rw [hd,A8 (by rw [hsz];exact hn)];exact h2
  · rw [show (s==d)=false by simpa using hs] at hq;rw [hd,Ap hs];exact q.st _ _ _ _ _ h3 (he s q hq)
theorem T0 {l:List Aa} {M:Av} {w:World} (h:An M0 w0 S (l++AX M1 w1::rs) M w):Ext M1 w1 M w∧An M0 w0 S (l++rs) M w:=
 ⟨(h.hold (AX M1 w1) (by simp)).1,(An.perm List.perm_middle h).JC⟩
theorem Fin.f_ {rv:ResultVar} {q:Pr} {rs':List Aa} (x:α) (hr:g.results= #[rv]) (h:BE P E rs' rv q) (hC:C x) (hl:Pr.le q (res x)) (hp:rs'.Perm (post x++AX M1 w1::rs)):
  Fin ⟨fz,[]⟩ E (Hp M0 w0 S rs') (bodyPost P g (Lq M0 w0 S rs M1 w1 C res post)) .ret:=by
 rintro a w ⟨M,_,hd,he,hi⟩
 have hi:An M0 w0 S rs' M w:=hi
 obtain ⟨v,hv,hp'⟩:=h M w a he (fun q hq=>(hi.hold q hq).1)
 obtain ⟨h1,h2⟩:=T0 (An.perm hp hi)
 exact ⟨hd,v,results1 hr hv,_,M,x,rfl,hC,hl _ _ _ hp',h1,h2⟩
end
section
variable {P:Program} {L:Lg P} {n:Fm} {fz:Nat} {E:Env} {M0:Av} {w0:World} {S:Nat→Prop} {rs:List Aa} {o:Oper}
def aC:Value→Option Nat
 | .slice (some a) _ (_+1)=>some a.block
 |_=>none
def Bl (e:TypeId) (sz:Nat) (rows:List (List Pr)) (v:Value):Aa where
 blk:=aC v
 new:=true
 h M w:=(rows=[]∧∃A,v= .slice A 0 0)∨(∃(b cap:Nat) (spare:List Value),v= .slice (some ⟨b,0,none⟩) rows.length (cap+1)∧rows.length≤cap+1∧cap+1≤maxLen∧spare.length=(cap+1-rows.length)*sz∧(AB true b e (rows.flatten++spare.map is)).h M w)
 st M w M' w' he hk h:=by
  rcases h with h|⟨b,cap,spare,rfl,h1,h2,h3,h4⟩
  · exact .inl h
  · exact .inr ⟨b,cap,spare,rfl,h1,h2,h3,(AB true b e _).st _ _ _ _ he hk h4⟩
theorem BR {α:Type} {l:List α} {j:Nat} {x:α} (h:l[j]? =some x):j<l.length:=by
 rcases Nat.lt_or_ge j l.length with h'|h'
 · exact h'
 · rw [List.getElem?_eq_none h'] at h;cases h
theorem An.blank {M:Av} {w:World} {j:Nat} {r:Aa} (h:An M0 w0 S rs M w) (hj:rs[j]? =some r):An M0 w0 S (rs.set j BA) M w:=
 An.perm (J6 (BR hj)) ((An.perm (FM hj) h).JC.Gz (r:=BA) rfl trivial)
theorem KY (sz:Nat) (A:Option Addr) (M:Av) (w:World):(slice sz []).h M w (.slice A 0 0):=⟨A,0,rfl,Nat.le_refl _,Nat.zero_le _,fun _=>rfl,fun i row h=>by simp at h⟩
theorem Ry (sz:Nat) (A:Option Addr) (M:Av) (w:World):(full sz []).h M w (.slice A 0 0):=⟨KY sz A M w,A,rfl⟩
theorem An.gA {M:Av} {w:World} {sz:Nat} {e:TypeId} {rows:List (List Pr)} {v:Value} {j:Nat} (h:An M0 w0 S rs M w) (hj:rs[j]? =some (Bl e sz rows v)) (hl:∀r∈rows,r.length=sz):
  ∃M',Ext M w M' w∧An M0 w0 S (rs.set j BA) M' w∧(slice sz rows).h M' w v:=by
 have hjl:=BR hj
 rcases (h.hold _ (List.mem_of_getElem? hj)).1 with ⟨rfl,A,rfl⟩|⟨b,cap,spare,rfl,hnc,hcm,hsp,Tu⟩
 · exact ⟨M,Ext.refl _ _,h.blank hj,KY sz A M w⟩
 ·
  have hC:=h.CI (r':=AB true b e (rows.flatten++spare.map is)) hj rfl rfl Tu
  obtain ⟨M',h1,h2,h3⟩:=An.cZ hC (List.getElem?_set_self hjl) hl hnc hcm (by rw [List.length_map];exact hsp)
  have h4:=h2.blank (j:=j) (by rw [List.set_set];exact List.getElem?_set_self hjl)
  rw [List.set_set,List.set_set] at h4
  exact ⟨M',h1,h4,h3⟩
theorem HL.set {M:Av} {w:World} {ps:List Pr} {vs:List Value} {k:Nat} {p q:Pr} (h:HL M w ps vs) (hk:ps[k]? =some p) (hq:∀u,p.h M w u→q.h M w u):HL M w (ps.set k q) vs:=by
 refine Nc (by rw [h.length];simp) fun k' p' hk'=> ?_
 rw [List.getElem?_set] at hk'
 split at hk'
 ·
  rename_i e1
  subst e1
  split at hk'
  ·
   obtain ⟨u,hu,ZK⟩:=h.at_ k p hk
   simp at hk';subst hk'
   exact ⟨u,hu,hq u ZK⟩
  · cases hk'
 · exact h.at_ k' p' hk'
theorem An.KZ {M:Av} {w:World} {i j k sz b:Nat} {new:Bool} {T e:TypeId} {ps:List Pr} {rows:List (List Pr)} {v:Value} (h:An M0 w0 S rs M w) (hi:rs[i]? =some (AB new b T ps)) (hj:rs[j]? =some (Bl e sz rows v)) (hij:j≠i) (hk:ps[k]? =some (is v)) (hl:∀r∈rows,r.length=sz):
  ∃M',Ext M w M' w∧An M0 w0 S ((rs.set j BA).set i (AB new b T (ps.set k (slice sz rows)))) M' w:=by
 obtain ⟨M',h1,h2,h3⟩:=h.gA hj hl
 have hi':(rs.set j BA)[i]? =some (AB new b T ps):=by rw [List.getElem?_set_ne hij];exact hi
 refine ⟨M',h1,h2.CI hi' rfl rfl ?_⟩
 obtain ⟨g1,cs,g2,g3,g4⟩:=(h2.hold _ (List.mem_of_getElem? hi')).1
 exact ⟨g1,cs,g2,g3.set hk (fun u hu=>by rw [show u=v from hu];exact h3),g4⟩
def part (sz:Nat) (v:Value) (k:Nat):Pr where
 h _ _ u:=∃a m c,v= .slice a m c∧k≤m∧u= .slice (if c=k then a else a.map fun x=>x.add (k*sz)) (m-k) (c-k)
 st _M _w _M' _w' _v _ h:=h
instance gB (sz:Nat) (v:Value) (k:Nat):One (part sz v k):=⟨by rintro M w u ⟨a,m,c,h1,h2,rfl⟩;exact ⟨rfl,rfl⟩⟩
theorem A9.cZ {f:FuncId} {args:List Pr} {e:TypeId} {sz m:Nat} {rows:List (List Pr)} {R:Aa} (hl:∀r∈rows,r.length=sz) (h:A9 P f args (lens m) R (fun v=>B1 e sz rows v)):A9 P f args (slice sz rows) R (fun _=>BA):=by
 refine ⟨h.1,fun M0 w0 S rs M w vs hI hv=>(h.2 M0 w0 S rs M w vs hI hv).mono ?_⟩
 rintro e' w' ⟨v,M',rfl,h2,h3,h4⟩
 obtain ⟨M2,j1,j2,j3⟩:=An.fc (j:=0) h4 rfl hl
 exact ⟨v,M2,rfl,j3,h3.trans j1,j2.blank (j:=0) rfl⟩
theorem A9.gC {f:FuncId} {args:List Pr} {e:TypeId} {sz m:Nat} {rows:List (List Pr)} {R:Aa} (hl:∀r∈rows,r.length=sz) (h:A9 P f args (lens m) R (fun v=>CC e sz rows v)):A9 P f args (slice sz rows) R (fun _=>BA):=
 A9.cZ hl (A9.PG h)
theorem A9.Kc {f:FuncId} {e:TypeId} {sz:Nat} {rows:List (List Pr)} {ps:List Pr} {res:Pr} {R:Aa} (h0:rows≠[]) (h:A9 P f ps res R (fun v=>CC e sz rows v)):A9 P f ps res R (fun v=>Bl e sz rows v):=by
 refine ⟨h.1,fun M0 w0 S rs M w vs hI hv=>(h.2 M0 w0 S rs M w vs hI hv).mono ?_⟩
 rintro e' w' ⟨v,M',rfl,h2,h3,h4⟩
 refine ⟨v,M',rfl,h2,h3,?_⟩
 have hpos:=List.length_pos_iff.2 h0
 obtain ⟨b,cap,spare,rfl,hnc,hcm,hsp,Tu⟩:=(h4.hold _ (List.mem_cons_self ..)).1
 cases cap with
 |zero=>omega
 |succ cap=>exact h4.CI (i:=0) rfl rfl rfl (.inr ⟨b,cap,spare,rfl,hnc,hcm,hsp,Tu⟩)
theorem A9.Nj {f:FuncId} {e:TypeId} {sz sz':Nat} {ps:List Pr} (h:A7 P f ps (full sz' [])):A9 P f ps (lens 0) BA (fun v=>Bl e sz [] v):=by
 refine ⟨h.1,fun M0 w0 S rs M w vs hI hv=>(h.2 M w vs hI.bd hv).mono ?_⟩
 rintro e' w' ⟨v,rfl,⟨_,a,rfl⟩,h3⟩
 refine ⟨_,M,rfl,⟨_,_,rfl⟩,Ext.below h3,?_⟩
 have NC:An M0 w0 S (BA::rs) M w':=(Hp M0 w0 S _).st _ _ _ h3 hI
 exact NC.CI (i:=0) (r':=Bl e sz [] (.slice a 0 0)) rfl (by cases a<;>rfl) rfl (.inl ⟨rfl,a,rfl⟩)
def aD (sz:Nat) (v:Value) (i o:Nat):Pr where
 h _ _ u:=∃a m c,v= .slice (some a) m c∧u= .pointer (some (a.add (i*sz+o)))
 st _M _w _M' _w' _v _ h:=h
instance j7 (sz:Nat) (v:Value) (k o:Nat):One (aD sz v k o):=⟨by rintro M w u ⟨a,m,c,h1,rfl⟩;exact ⟨rfl,rfl⟩⟩
theorem Mk {t e:TypeId} {x y:Operand} {k:IntKind} {l:Int} {sz j:Nat} {T:TypeId} {rows:List (List Pr)} {v:Value} (ho:o.op= .indexAddr t x y) (ht:P.underlying t=some (.slice e)) (hz:Af P e=some sz) (hx:VL E x (is v)) (hy:VL E y (is (.int k l))) (h0:0≤l) (hl:l<rows.length):
  Gx P M0 w0 S j (SR.c (Bl T sz rows v)) o E (aD sz v l.toNat 0):=by
 intro M w a rs he hI hj
 have h1:a.eval x=v:=hx.ev he (by simp [ho,Op.operands])
 have h3:a.eval y= .int k l:=hy.ev he (by simp [ho,Op.operands])
 have hj':rs[j]? =some (Bl T sz rows v):=hj
 rcases (hI.hold _ (List.mem_of_getElem? hj')).1 with ⟨rfl,A,hv⟩|⟨b,cap,spare,hv,hnc,hcm,hsp,Tu⟩
 · simp at hl;omega
 ·
  have hrun:(execOp a.eval o).run P w= .ok (.value (.pointer (some ((⟨b,0,none⟩:Addr).add (l.toNat*sz))))) w:=by
   simp [execOp,ho,h1,h3,hv,Instr.indexAt,asIntOf,run_underlying ht,BT hz,h0,hl]
  rw [hrun]
  exact ⟨⟨_,_,_,hv,rfl⟩,Below.refl _ _⟩
theorem PJ {I:Bn} {t:TypeId} {x:Operand} {f sz i q off:Nat} {v:Value} (ho:o.op= .fieldAddr t x f) (hf:AK P t f=some off) (hx:VL E x (aD sz v i q)):AH P I o E (aD sz v i (q+off)):=
 AH.same fun M w a he _=>by
  obtain ⟨a0,m0,c0,hv,h1⟩:=hx.ev he (by simp [ho,Op.operands])
  exact ⟨.pointer (some ((a0.add (i*sz+q)).add off)),by simp [execOp,ho,h1,F3 hf],a0,m0,c0,hv,by rw [add_add,Nat.add_assoc]⟩
theorem Rz {t:TypeId} {x:Operand} {sz j i:Nat} {T:TypeId} {rows:List (List Pr)} {row:List Pr} {v:Value} (ho:o.op= .load t x) (ht:Dp P t=true) (hz:Af P t=some sz) (hx:VL E x (aD sz v i 0)) (hl:∀r∈rows,r.length=sz) (hi:rows[i]? =some row):
  Gx P M0 w0 S j (SR.c (Bl T sz rows v)) o E (agg row):=by
 intro M w a rs he hI hj
 obtain ⟨a0,m0,c0,Qg,h1⟩:=hx.ev he (by simp [ho,Op.operands])
 rw [Nat.add_zero] at h1
 have hj':rs[j]? =some (Bl T sz rows v):=hj
 rcases (hI.hold _ (List.mem_of_getElem? hj')).1 with ⟨rfl,A,hv⟩|⟨b,cap,spare,hv,hnc,hcm,hsp,⟨_,cs,h4,h5,h6⟩⟩
 · simp at hi
 ·
  rw [Qg] at hv
  injection hv with e1 e2 e3
  injection e1 with e1
  subst e1
  have Eo:=BR hi
  have hrl:=hl row (List.mem_of_getElem? hi)
  have hfl:=Bv hl
  have hle:(i+1)*sz≤rows.length*sz:=Nat.mul_le_mul_right sz Eo
  rw [Nat.add_mul] at hle
  have h7:HL M w row ((cs.drop (i*sz)).take sz):=by
   have h8:=(h5.drop (i*sz)).take sz
   have e4:((rows.flatten++spare.map is).drop (i*sz)).take sz=row:=by
    refine List.ext_getElem? fun j=> ?_
    rw [List.getElem?_take]
    split
    ·
     rename_i hj
     rw [List.getElem?_drop,List.getElem?_append_left (by rw [hfl];omega),FR hl hi hj]
    · rw [List.getElem?_eq_none (by omega)]
   rwa [e4] at h8
  have hl':((cs.drop (i*sz)).take sz).length=sz:=by rw [h7.length,hrl]
  have hrun:(loadCells ((⟨b,0,none⟩:Addr).add (i*sz)) sz).run P w= .ok ((cs.drop (i*sz)).take sz).toArray w:=by
   have:=run_loadCells_list (P:=P) w ((⟨b,0,none⟩:Addr).add (i*sz)) ((cs.drop (i*sz)).take sz) (fun k u hk=>by
    rw [add_add,DW]
    rw [List.getElem?_take] at hk
    split at hk
    · rw [List.getElem?_drop] at hk;simp [World.cell?,h4,hk]
    · cases hk)
   rwa [hl'] at this
  have DC:(execOp a.eval o).run P w= .ok (.value (.agg ((cs.drop (i*sz)).take sz).toArray)) w:=by simp [execOp,ho,h1,Instr.loadAt,Instr.sureAddr,loadVar,DA ht,BT hz,hrun]
  rw [DC]
  exact ⟨⟨_,rfl,fun c hc=>h6 c (List.mem_of_mem_drop (List.mem_of_mem_take hc)),h7⟩,Below.refl _ _⟩
theorem Nk {sz:Nat}:∀{rows:List (List Pr)} {i:Nat} {row:List Pr} {o:Nat} {qs S:List Pr},(∀r∈rows,r.length=sz)→rows[i]? =some row→o+qs.length≤sz→
  (rows.flatten++S).take (i*sz+o)++qs++(rows.flatten++S).drop (i*sz+o+qs.length)=(rows.set i (row.take o++qs++row.drop (o+qs.length))).flatten++S
 |[],_,_,_,_,_,_,h,_=>by simp at h
 |a::l,0,row,o,qs,S,hl,h,ho=>by
  simp at h;subst h
  have h1:=hl a (by simp)
  rw [List.set_cons_zero,List.flatten_cons,List.flatten_cons,Nat.zero_mul,Nat.zero_add,List.append_assoc a,List.take_append_of_le_length (by omega),List.drop_append_of_le_length (by omega)]
  simp
 |a::l,i+1,row,o,qs,S,hl,h,ho=>by
  have h1:=hl a (by simp)
  have ih:=Nk (S:=S) (fun r hr=>hl r (List.mem_cons_of_mem _ hr)) (i:=i) (row:=row) (o:=o) (qs:=qs) (by simpa using h) ho
  rw [List.set_cons_succ, List.flatten_cons, List.flatten_cons, List.append_assoc a, List.append_assoc a, ← ih, List.take_append, List.drop_append, List.take_of_length_le (by rw [h1, Nat.succ_mul]; omega), List.drop_of_length_le (by rw [h1, Nat.succ_mul]; omega),
   show (i+1)*sz+o-a.length=i*sz+o by rw [h1,Nat.succ_mul];omega,show (i+1)*sz+o+qs.length-a.length=i*sz+o+qs.length by rw [h1,Nat.succ_mul];omega]
  simp
theorem Ke {t:TypeId} {x y:Operand} {sz j i q m:Nat} {T:TypeId} {rows rows':List (List Pr)} {row qs:List Pr} {v:Value} (hg:o.guard=none) (ho:o.op= .store t x y) (hx:VL E x (aD sz v i q)) (hy:VL E y (B0 qs)) (hz:Af P t=some m) (hm:qs.length=m)
  (hl:∀r∈rows,r.length=sz) (hi:rows[i]? =some row) (hq:q+m≤sz) (hps:rows.set i (row.take q++qs++row.drop (q+m))=rows'):Cd P M0 w0 S n j (SR.c (Bl T sz rows v)) (SR.c (Bl T sz rows' v)) o E any:=by
 refine ⟨hg,fun M w a rs hsz he hI hj=> ?_⟩
 obtain ⟨a0,m0,c0,Qg,h1⟩:=hx.ev he (show x∈o.op.operands.toList by simp [ho,Op.operands])
 obtain ⟨h2,h3⟩:=hy.ev he (show y∈o.op.operands.toList by simp [ho,Op.operands])
 have hj':rs[j]? =some (Bl T sz rows v):=hj
 have hjl:=BR hj'
 rcases (hI.hold _ (List.mem_of_getElem? hj')).1 with ⟨rfl,A,hv⟩|⟨b,cap,spare,hv,hnc,hcm,hsp,Tu⟩
 · simp at hi
 ·
  subst hv
  injection Qg with e1 e2 e3
  injection e1 with e1
  subst e1
  have hC:=hI.CI (r':=AB true b T (rows.flatten++spare.map is)) hj' rfl rfl Tu
  have j5:(rs.set j (AB true b T (rows.flatten++spare.map is)))[j]? =some (AB true b T (rows.flatten++spare.map is)):=List.getElem?_set_self hjl
  obtain ⟨_,cs,h4,h5,h6⟩:=Tu
  have eF:=h5.length
  have YS:=h2.length
  have Eo:=BR hi
  have hfl:=Bv hl
  rw [List.length_append,hfl,List.length_map] at eF
  have hle:(i+1)*sz≤rows.length*sz:=Nat.mul_le_mul_right sz Eo
  rw [Nat.succ_mul] at hle
  have hcells:(a.eval y).cells.size=m:=by rw [←hm,←YS];simp
  have hrun:(storeCells ((⟨b,0,none⟩:Addr).add (i*sz+q)) (a.eval y).cells.toList 0).run P w= .ok () (w.setRow b (cs.take (i*sz+q)++(a.eval y).cells.toList++cs.drop (i*sz+q+m)).toArray):=by
   have:=run_storeCells_at (P:=P) b (i*sz+q) T (a.eval y).cells.toList 0 cs.toArray w h4 (by simp;omega) h3
   rw [DW,Nat.zero_add]
   simpa [hcells] using this
  have DC:(execOp a.eval o).run P w= .ok .skip (w.setRow b (cs.take (i*sz+q)++(a.eval y).cells.toList++cs.drop (i*sz+q+m)).toArray):=by
   simp [execOp,ho,h1,Instr.storeAt,Instr.sureAddr,storeVar,BT hz,hcells,hrun]
  rw [DC]
  have hfs:=Nk (S:=spare.map is) hl hi (o:=q) (qs:=qs) (by omega)
  rw [hm,hps] at hfs
  obtain ⟨h7, h8⟩ := An.write (qs := rows'.flatten ++ spare.map is) (cs := cs.take (i * sz + q) ++ (a.eval y).cells.toList ++ cs.drop (i * sz + q + m)) hC j5 (by rw [← hfs]; exact (((h5.take (i * sz + q)).app h2)).app (h5.drop (i * sz + q + m)))
   (fun c hc=>by
    simp only [List.mem_append] at hc
    rcases hc with (hc|hc)|hc
    · exact h6 c (List.mem_of_mem_take hc)
    · exact h3 c hc
    · exact h6 c (List.mem_of_mem_drop hc))
  rw [List.set_set] at h7
  refine ⟨M,trivial,h8,?_⟩
  have hlen:rows'.length=rows.length:=by rw [←hps,List.length_set]
  have h9:=h7.CI (r':=Bl T sz rows' (.slice (some ⟨b,0,none⟩) rows.length (cap+1))) (List.getElem?_set_self hjl) rfl rfl (.inr ⟨b,cap,spare,by rw [hlen],by rw [hlen];exact hnc,hcm,by rw [hlen];exact hsp,(h7.hold _ (List.mem_of_getElem? (List.getElem?_set_self hjl))).1⟩)
  rw [List.set_set] at h9
  exact h9
theorem An.Yt:∀{l:List Aa} {M:Av} {w:World},An M0 w0 S (l++rs) M w→An M0 w0 S rs M w
 |[],_,_,h=>h
 |_::l,_,_,h=>An.Yt (l:=l) h.JC
end
section
variable {P:Program} {L:Lg P} {E:Env} {I:Bn} {o:Oper}
theorem PK {f : FuncId} {fn : Func} {x y : Operand} {ts : Array TypeId} {a : List UInt8} {c : UInt8} (ho : o.op = .call { callee := .value (.func f), args := #[x, y], argTypes := ts }) (hf : P.funcs[f]? = some fn) (hname : (fn.name == "runtime.NumGoroutine") = false)
  (hb:fn.body.isNone=true) (hn:Extern.findNext fn=none) (hex:Extern.find fn=some Extern.BytealgIndexByte.indexByte) (hx:VL E x (str a)) (hy:VL E y (is (.int .u8 ((c.toNat:Nat):Int)))):AH P I o E (int (Lib.indexByte a c)):=
 AH.same fun M w ac he _=>by
  have h1:ac.eval x=_:=hx.ev he (by simp [ho,Op.operands,Call.operands])
  have h2:ac.eval y=_:=hy.ev he (by simp [ho,Op.operands,Call.operands])
  have h3:ac.eval (.func f)= .func (.func f) #[] #[]:=rfl
  refine ⟨_,?_,rfl⟩
  have hrun:(execOp ac.eval o).run P w=(callFunc f #[ac.eval x,ac.eval y]).run P w:=by simp [execOp,ho,resolve,Deferred.ofValue,invoke,h3]
  rw [hrun,h1,h2,run_callFunc_extern hf hname hb hn hex,Lib.run_indexByteString]
  simp
section
variable {n:Fm} {fz:Nat} {M0:Av} {w0:World} {S:Nat→Prop}
theorem R3 {t e:TypeId} {sz d j:Nat} {zs:List Value} {xs:List Operand} {parts:Array (Nat×Operand)} {rows:List (List Pr)} (hg:o.guard=none) (hd:o.dst=some d) (hn:d<n) (ho:o.op= .buildSlice t xs.length parts) (hp:parts.toList=(xs.zipIdx 0).map fun x=>(x.2,x.1))
  (ht:P.underlying t=some (.slice e)) (hz:Af P e=some sz) (DO:Ax P e=some zs) (hzl:zs.length=sz) (hsz:0<sz) (hx:LJ E sz xs rows) (hsmall:xs.length*sz≤16777216) (pz:0<xs.length):Cd P M0 w0 S n j (SR.c BA) ⟨d,CC e sz rows⟩ o E (lens rows.length):=by
 refine ⟨hg,fun M w a rs Ib he hI hj=> ?_⟩
 have ZR:∀x∈xs,x∈o.op.operands.toList:=by
  intro x hx
  simp only [ho,Op.operands,List.mem_map]
  obtain ⟨i,hi,rfl⟩:=List.mem_iff_getElem.1 hx
  exact ⟨(i,xs[i]),by rw [hp];exact List.mem_map.2 ⟨(xs[i],i),by rw [List.mem_zipIdx_iff_getElem?];simp [hi],rfl⟩,rfl⟩
 obtain ⟨h1,h2,h3⟩:=hx.ev he ZR
 unfold Af at hz
 unfold Ax at DO
 cases hi:P.info? e with
 |none=>rw [hi] at hz;cases hz
 |some i=>
  rw [hi] at hz DO
  simp only [Option.map_some,Option.some.injEq,Option.map_eq_some_iff] at hz DO
  obtain ⟨z,Qf,DO⟩:=DO
  have TN:z.cells.size=sz:=by rw [←hzl,←DO];simp
  have hparts:(parts.map fun (i,x)=>(i,a.eval x)).toList=((xs.map a.eval).zipIdx 0).map fun x=>(x.2,x.1):=by
   rw [Array.toList_map,hp,List.map_map,List.zipIdx_map,List.map_map]
   rfl
  have TQ := fill_whole (s := i.size) (by rw [hz]; exact hsz) (xs.map a.eval) ((Array.range (xs.length * i.size)).map (z.cells[· % z.cells.size]!)) (fun v hv => by
   obtain ⟨x,hx,rfl⟩:=List.mem_map.1 hv
   rw [hz];exact h2 x hx) (by simp)
  have hpos:¬xs.length*i.size=0:=by rw [hz];exact Nat.ne_of_gt (Nat.mul_pos (by omega) hsz)
  have hrun:=run_buildSlice (P:=P) w t e xs.length (parts.map fun (i,x)=>(i,a.eval x)) _ i z ht hi Qf (by rw [hz];omega) hpos (by rw [hparts];exact TQ)
  have DC:(execOp a.eval o).run P w= .ok (.value (.slice (some ⟨w.heap.size,0,none⟩) xs.length xs.length)) (w.alloc (.cells ((xs.map a.eval).flatMap fun v=>v.cells.toList).toArray e)):=by simp [execOp,ho,hrun]
  rw [DC]
  generalize hcs:(xs.map a.eval).flatMap (fun v=>v.cells.toList)=cs at h3 ⊢
  have hb:Below w.heap.size w (w.alloc (.cells cs.toArray e)):=(Below.refl _ _).alloc (Nat.le_refl _) _
  have hlen:rows.length≤maxLen:=by
   have:xs.length*1≤xs.length*sz:=Nat.mul_le_mul_left _ hsz
   unfold maxLen;omega
  have h4:=Ext.below (M:=M) hb
  have Co:Ext M w (fun b o=>M b o∨b=w.heap.size) (w.alloc (.cells cs.toArray e)):=by
   refine ⟨h4.size,fun a v hc hm=>⟨fun hx=> ?_,(h4.keep a v hc hm).2⟩,fun b o ho hp hm=>⟨fun hx=> ?_,(h4.obj b o ho hp hm).2⟩⟩
   ·
    rcases hx with hx|hx
    · exact hm hx
    · have:=CN hc;omega
   ·
    rcases hx with hx|hx
    · exact hm hx
    · subst hx;simp at ho
  have hs1:(w.alloc (.cells cs.toArray e)).heap.size=w.heap.size+1:=by simp
  have hat:(SR.at_ (a.put o.dst (.slice (some ⟨w.heap.size,0,none⟩) xs.length xs.length)) ⟨d,CC e sz rows⟩)=CC e sz rows (.slice (some ⟨w.heap.size,0,none⟩) xs.length xs.length):=by unfold SR.at_ Slot.val;dsimp only;rw [hd,A8 (by rw [Ib];exact hn)]
  refine ⟨fun b o=>M b o∨b=w.heap.size,⟨_,_,by rw [h1]⟩,Co,?_⟩
  rw [hat]
  refine hI.replace hj Co hb.os hb.tape hb.output (fun k hk _=>hb.block k hk) rfl (fun b o hm _=> .inl hm) (fun b o hx=> ?_) ?_ rfl (fun b hbk=> ?_)
  ·
   rcases hx with hx|hx
   · have:=hI.bd _ _ hx;omega
   · omega
  ·
   refine ⟨w.heap.size,rows.length,[],by rw [h1],Nat.le_refl _,hlen,by simp,fun o=> .inr rfl,cs,heap_alloc_new w _,?_,h3.2.1⟩
   simpa using (h3.st Co).hl hsz
  ·
   have Cr:some w.heap.size=some b:=hbk
   injection Cr with e1
   subst e1
   exact ⟨by rw [hs1];omega,.inr (Nat.le_refl _)⟩
end
theorem XC (p:Pr) [One p]:Pr.le p (B0 [any]):=fun M w v h=>by
 obtain ⟨h1,h2⟩:=AD p M w v h
 refine ⟨?_,h2⟩
 match v.cells.toList,h1 with
 |[_],_=>exact ⟨trivial,trivial⟩
theorem XD {ps:List Pr} {off:Nat} (h:ps[off]? =some any):ps.take off++[any]++ps.drop (off+1)=ps:=by
 have hl:=BR h
 rw [List.getElem?_eq_getElem hl] at h
 simp only [Option.some.injEq] at h
 conv=>rhs;rw [←List.take_append_drop off ps,List.drop_eq_getElem_cons hl,h]
 simp
end
def allI (p:Nat→Bool) (n:Nat):Bool:=(List.range n).all p
theorem Ct {p:Nat→Bool} {n:Nat}:allI p n=true↔∀j,j<n→p j=true:=by unfold allI;simp
theorem Ht {p:Nat→Bool} {n:Nat} (h:∀j,j<n→p j=true):allI p n=true:=Ct.2 h
theorem CY {p:Nat→Bool} {n k:Nat} (hk:k<n) (h:p k=false):allI p n=false:=by
 rw [Bool.eq_false_iff];intro h';rw [Ct.1 h' k hk] at h;cases h
theorem B4 {p:Nat→Bool} {k:Nat} (h:∀j,j<k→p j=true) (hk:p k=true):∀j,j<k+1→p j=true:=by
 intro j hj
 by_cases e:j=k
 · subst e;exact hk
 · exact h j (by omega)
section
variable {P:Program} {L:Lg P} {n:Fm} {fz:Nat} {I:Bn}
def gD (P:Program) (I':Bn) (M:Av) (w:World) (p:Pr):Result Next→Prop
 | .ok (.value v) w'=>∃M',p.h M' w' v∧Ext M w M' w'∧I'.h M' w'
 | .ok .skip w'=>∃M',p.h M' w' undef∧Ext M w M' w'∧I'.h M' w'
 | .ok (.enter f args) w'=>Calls P f args w' fun e w''=>∃v M',e= .returned v∧p.h M' w'' v∧Ext M w M' w''∧I'.h M' w''
 |_=>False
def T2 (P:Program) (n:Fm) (I I':Bn) (o:Oper) (E:Env) (p:Pr):Prop:=o.guard=none∧∀M w (a:Act),a.tmps.size=n.sz→Bi M w E o a→I.h M w→gD P I' M w p ((execOp a.eval o).run P w)
def Ls (P:Program) (n:Fm) (I:Bn) (ops:Array Oper):Nat→List Oper→Env→(Bn→Env→Prop)→Prop
 |_,[],_,_=>False
 |0,o::r,E,K=>∃p I',T2 P n I I' o E p∧(∀d,o.dst=some d→d<n)∧Ch P n I' ops r (upd o p E) (K I')
 |c+1,o::r,E,K=>∃p,S_ P I ops o E p∧(∀d,o.dst=some d→d<n)∧Ls P n I ops c r (upd o p E) K
theorem Ls.op {ops:Array Oper} {o:Oper} {r:List Oper} {E:Env} {K:Bn→Env→Prop} {d c:Nat} {p:Pr} (hg:o.guard=none) (hd:o.dst=some d) (hn:d<n) (h:AH P I o E p)
  (k:Ls P n I ops c r ((d,p)::E) K):Ls P n I ops (c+1) (o::r) E K:=
 ⟨p,by unfold S_;rw [hg];exact h,fun d' hd'=>by rw [hd] at hd';cases hd';exact hn,by unfold upd;rw [hd];exact k⟩
theorem Ls.turn {ops:Array Oper} {o:Oper} {r:List Oper} {E:Env} {K:Bn→Env→Prop} {d:Nat} {p:Pr} (I':Bn) (hd:o.dst=some d) (hn:d<n) (h:T2 P n I I' o E p)
  (k:Ch P n I' ops r ((d,p)::E) (K I')):Ls P n I ops 0 (o::r) E K:=
 ⟨p,I',h,fun d' hd'=>by rw [hd] at hd';cases hd';exact hn,by unfold upd;rw [hd];exact k⟩
def T3 (P:Program) (f:FuncId) (args:List Pr) (pre:List Aa) (res:Pr) (post:List Aa):Prop:=Hs (α:=Unit) P f args pre (fun _=>True) (fun _=>res) (fun _=>post)
section
variable {M0:Av} {w0:World} {S:Nat→Prop} {rs:List Aa} {E:Env} {o:Oper} {g:Func} {M1:Av} {w1:World}
theorem T3.of {f : FuncId} {c : Code} {ps : List Pr} {pre post : List Aa} {res : Pr} (hf : P.funcs[f]? = some g) (hb : g.body = some c) (hname : (g.name == "runtime.NumGoroutine") = false) (hlen : ps.length ≤ g.ntmps)
  (h:∀M0 w0 S rs M1 w1,Tr (QT P) g.ntmps (Gw 0 ps) (Hp M0 w0 S (pre++AX M1 w1::rs)) c (bodyPost P g (Lq M0 w0 S rs M1 w1 (fun _:Unit=>True) (fun _=>res) (fun _=>post)))):T3 P f ps pre res post:=
 Hs.of hf hb hname hlen h
theorem A9.pure {f:FuncId} {args:List Pr} {res:Pr} {R':Value→Aa} (h:A9 P f args res BA R'):A7 P f args res:=by
 refine ⟨h.1,fun M w vs hb hv=> ?_⟩
 refine (h.2 M w Ot [] M w vs ((An.begin hb).Gz (r:=BA) rfl trivial) hv).mono ?_
 rintro e w' ⟨v,M',rfl,h2,h3,h4⟩
 exact ⟨v,rfl,res.st _ _ _ _ _ (Ext.less h4.m) h2,h4.below⟩
theorem XE {t e T:TypeId} {x:Operand} {sz j:Nat} {rows:List (List Pr)} {v:Value} (ho:o.op= .call { callee:= .builtin .len,args:= #[x],argTypes:= #[t] }) (ht:P.underlying t=some (.slice e)) (hx:VL E x (is v)):
  Gx P M0 w0 S j (SR.c (Bl T sz rows v)) o E (int ((rows.length:Nat):Int)):=by
 intro M w a rs he hI hj
 have h1:a.eval x=v:=hx.ev he (by simp [ho,Op.operands,Call.operands])
 have hj':rs[j]? =some (Bl T sz rows v):=hj
 have hrun:∃A c,v= .slice A rows.length c:=by
  rcases (hI.hold _ (List.mem_of_getElem? hj')).1 with ⟨rfl,A,hv⟩|⟨b,cap,spare,hv,_⟩
  · exact ⟨_,_,hv⟩
  · exact ⟨_,_,hv⟩
 obtain ⟨A,c,hv⟩:=hrun
 have:(execOp a.eval o).run P w= .ok (.value (.int .i64 ((rows.length:Nat):Int))) w:=by
  simp [execOp,ho,resolve,invoke,builtin,Builtin.len_,h1,hv,run_underlying ht,goInt]
 rw [this]
 exact ⟨rfl,Below.refl _ _⟩
end
end
section
variable {P:Program} {L:Lg P} {n:Fm} {fz:Nat} {E:Env} {M0:Av} {w0:World} {S:Nat→Prop} {rs:List Aa} {o:Oper}
def gE (b off m:Nat):Pr where
 h _ _ u:=∃o c,u= .slice (some ⟨b,o,none⟩) m c∧(0<m→o=off)
 st _M _w _M' _w' _v _ h:=h
instance cv (b off m:Nat):One (gE b off m):=⟨by rintro M w u ⟨o,c,rfl,_⟩;exact ⟨rfl,rfl⟩⟩
theorem Hu {I:Bn} {t e:TypeId} {x y:Operand} {sz sz1 sz2:Nat} (ho:o.op= .call { callee:= .builtin .append,args:= #[x,y],argTypes:= #[t,t] }) (ht:P.underlying t=some (.slice e)) (hz:Af P e=some sz) (hx:VL E x (full sz1 [])) (hy:VL E y (slice sz2 [])):AH P I o E (full sz []):=
 AH.same fun M w a he _=>by
  obtain ⟨_,A,h1⟩:=hx.ev he (by simp [ho,Op.operands,Call.operands])
  obtain ⟨A',c',h2,_⟩:=hy.ev he (by simp [ho,Op.operands,Call.operands])
  simp only [List.length_nil] at h1 h2
  refine ⟨.slice A 0 0,?_,Ry sz A M w⟩
  have hrun:=Fi (P:=P) (ty:=o.type) (A:=A) (A':=A') (n:=0) (c:=0) (c':=c') ht hz (Nat.le_refl _) w
  simp [execOp,ho,resolve,invoke,builtin,h1,h2,hrun]
end
section
variable {P:Program} {L:Lg P} {n:Fm} {fz:Nat} {E:Env} {M0:Av} {w0:World} {S:Nat→Prop} {rs:List Aa} {o:Oper}
end
section
variable {P:Program} {L:Lg P} {n:Fm} {fz:Nat} {E:Env} {M0:Av} {w0:World} {S:Nat→Prop} {rs:List Aa}
theorem St.KZ {i j k sz b:Nat} {new:Bool} {T e:TypeId} {ps:List Pr} {rows:List (List Pr)} {v:Value} {p:Pr} (hi:rs[i]? =some (AB new b T ps)) (hj:rs[j]? =some (Bl e sz rows v)) (hij:j≠i) (hk:ps[k]? =some p) (hp:Pr.le p (is v)) (hl:∀r∈rows,r.length=sz) {a:Act} {w:World} (h:St n E (Hp M0 w0 S rs) a w):
  St n E (Hp M0 w0 S ((rs.set j BA).set i (AB new b T (ps.set k (slice sz rows))))) a w:=by
 obtain ⟨M,h1,h2,h3,h4⟩:=h
 have h4:An M0 w0 S rs M w:=h4
 have hi':(rs.set j (Bl e sz rows v))[i]? =some (AB new b T ps):=by rw [List.getElem?_set_ne hij];exact hi
 obtain ⟨M',g1,g2,g3⟩:=h4.gA hj hl
 have gi:(rs.set j BA)[i]? =some (AB new b T ps):=by rw [List.getElem?_set_ne hij];exact hi
 refine ⟨M',h1,h2,fun s q hq=>q.st _ _ _ _ _ g1 (h3 s q hq),g2.CI gi rfl rfl ?_⟩
 obtain ⟨c1,cs,c2,c3,c4⟩:=(g2.hold _ (List.mem_of_getElem? gi)).1
 exact ⟨c1,cs,c2,c3.set hk (fun u hu=>by rw [show u=v from hp _ _ _ hu];exact g3),c4⟩
theorem Tr.KZ {Q:Exit→Act→World→Prop} {c:Code} (i j k:Nat) {sz b:Nat} {new:Bool} {T e:TypeId} {ps:List Pr} {rows:List (List Pr)} {v:Value} {p:Pr} (hi:rs[i]? =some (AB new b T ps)) (hj:rs[j]? =some (Bl e sz rows v)) (hij:j≠i) (hk:ps[k]? =some p) (hp:Pr.le p (is v)) (hl:∀r∈rows,r.length=sz)
  (kk:Tr L n E (Hp M0 w0 S ((rs.set j BA).set i (AB new b T (ps.set k (slice sz rows))))) c Q):Tr L n E (Hp M0 w0 S rs) c Q:=Tr.conv (fun _ _ hs=>hs.KZ hi hj hij hk hp hl) kk
end
theorem XF {β:Type} {f:β→List Pr} {l:List β} {k q m:Nat} {x:β} {qs:List Pr} (h:l[k]? =some x) (hq:(f x).take q++qs++(f x).drop (q+m)=f x):(l.map f).set k ((f x).take q++qs++(f x).drop (q+m))=l.map f:=by
 rw [hq]
 refine List.ext_getElem? fun i=> ?_
 rw [List.getElem?_set]
 by_cases hi:k=i
 ·
  subst hi
  rw [if_pos rfl,List.getElem?_map,h]
  have:=BR h
  rw [if_pos (by rw [List.length_map];exact this)];rfl
 · rw [if_neg hi]
theorem T4 {β:Type} {f:β→List Pr} {l:List β} {k q m:Nat} {x:β} {qs:List Pr} (h:l[k]? =some x) (hq:(f x).take q++qs++(f x).drop (q+m)=f x):(l.map f).set ((k:Nat):Int).toNat ((f x).take q++qs++(f x).drop (q+m))=l.map f:=by
 rw [Int.toNat_natCast];exact XF h hq
section
variable {P:Program} {L:Lg P} {n:Fm} {fz:Nat} {E:Env} {M0:Av} {w0:World} {S:Nat→Prop} {rs:List Aa} {o:Oper} {g:Func} {M1:Av} {w1:World}
theorem Row.hd {M:Av} {w:World} {ad:Addr} {p q:Pr} {ps:List Pr} (h:Row M w ad 0 (p::ps)) (hq:∀u,p.h M w u→q.h M w u):Row M w ad 0 (q::ps):=by
 intro j r hr
 cases j with
 |zero=>
  simp at hr;subst hr
  obtain ⟨u,h1,h2,h3,h4⟩:=h 0 p rfl
  exact ⟨u,h1,h2,h3,hq u h4⟩
 |succ j=>exact h (j+1) r (by simpa using hr)
theorem TO.re {Q:Exit→Act→World→Prop} {ops:Array Oper} {l:List Oper} {I:Bn} (s:Nat) {q:Pr} (p:Pr) (hs:E.lookup s=some q) (hl:Pr.le q p) (k:TO P n ops l ((s,p)::E) I Q):TO P n ops l E I Q:=by
 intro m hm a w hst
 refine k m hm a w ?_
 obtain ⟨M,h1,h2,he,h4⟩:=hst
 refine ⟨M,h1,h2,fun s' r hr=> ?_,h4⟩
 simp only [List.lookup] at hr
 split at hr
 ·
  rename_i e1
  have:s'=s:=by simpa using e1
  subst this
  simp only [Option.some.injEq] at hr
  subst hr
  exact hl _ _ _ (he _ _ hs)
 · exact he _ _ hr
theorem Fin.aE {Q:Exit→Act→World→Prop} {x:Exit} {r r':Aa} (k:Fin n E (Hp M0 w0 S (r'::r::rs)) Q x):Fin n E (Hp M0 w0 S (r::r'::rs)) Q x:=
 Fin.conv (fun _ _ ⟨M,h1,h2,h3,h4⟩=>⟨M,h1,h2,h3,An.perm (List.Perm.swap _ _ _) h4⟩) k
def T5 (P:Program) (f:FuncId) (args:List Pr) (res:Value→Pr) (post:Value→List Aa):Prop:=Hs (α:=Value) P f args [] (fun _=>True) res post
theorem T5.of {f : FuncId} {c : Code} {ps : List Pr} {res : Value → Pr} {post : Value → List Aa} (hf : P.funcs[f]? = some g) (hb : g.body = some c) (hname : (g.name == "runtime.NumGoroutine") = false) (hlen : ps.length ≤ g.ntmps)
  (h:∀M0 w0 S rs M1 w1,Tr (QT P) g.ntmps (Gw 0 ps) (Hp M0 w0 S (AX M1 w1::rs)) c (bodyPost P g (Lq M0 w0 S rs M1 w1 (fun _:Value=>True) res post))):T5 P f ps res post:=
 Hs.of hf hb hname hlen h
theorem Fin.mw {rv:ResultVar} {q:Pr} {res:Value→Pr} {post:Value→List Aa} {rs':List Aa} (v:Value) (dr:List Aa) (hr:g.results= #[rv]) (h:BE P E rs' rv q) (hl:Pr.le q (res v)) (hp:rs'.Perm (dr++(post v++AX M1 w1::rs))):
  Fin ⟨fz,[]⟩ E (Hp M0 w0 S rs') (bodyPost P g (Lq M0 w0 S rs M1 w1 (fun _:Value=>True) res post)) .ret:=by
 rintro a w ⟨M,_,hd,he,hi⟩
 have hi:An M0 w0 S rs' M w:=hi
 obtain ⟨u,hu,hp'⟩:=h M w a he (fun q hq=>(hi.hold q hq).1)
 obtain ⟨h1,h2⟩:=T0 (An.Yt (An.perm hp hi))
 exact ⟨hd,u,results1 hr hu,_,M,v,rfl,trivial,hl _ _ _ hp',h1,h2⟩
theorem TO.gF {Q:Exit→Act→World→Prop} {ops:Array Oper} {r:List Oper} {f:FuncId} {xs:Array Operand} {ts:Array TypeId} {ps:List Pr} {res:Value→Pr} {post:Value→List Aa} {d:Nat} (hg:o.guard=none) (hd:o.dst=some d) (hn:d<n) (ho:o.op= .call { callee:= .value (.func f),args:=xs,argTypes:=ts }) (hf:T5 P f ps res post)
  (hv:FJ E xs.toList ps) (k:∀v,TO P n ops r ((d,res v)::E) (Hp M0 w0 S (post v++rs)) Q):TO P n ops (o::r) E (Hp M0 w0 S rs) Q:=
 TO.Tz rs hg hd hn ho hf hv (List.Perm.refl _) fun v _=>k v
end
section
variable {P:Program} {L:Lg P} {n:Fm} {fz:Nat} {E:Env} {I:Bn} {Q:Exit→Act→World→Prop} {ops:Array Oper} {o:Oper} {r:List Oper} {g j:Nat} {b want:Bool}
theorem TO.cases (g:Nat) {b:Bool} {l:List Oper} (_hb:E.lookup g=some (bool b)) (ht:b=true→TO P n ops l E I Q) (hf:b=false→TO P n ops l E I Q):TO P n ops l E I Q:=by
 cases b
 · exact hf rfl
 · exact ht rfl
theorem TO.gG (hg:o.guard=some (j,want)) (hj:(ops[j]?).bind (·.dst)=some g) (hb:E.lookup g=some (bool b)) (HR:b=want) (h:∀(K:Act→World→Prop) M w (a:Act),a.tmps.size=n.sz→a.defers=n.df→DT M w E a→I.h M w→
  (∀E' I' a' w',TO P n ops r E' I' Q→St n E' I' a' w'→K a' w')→o.wp P a w K Q):TO P n ops (o::r) E I Q:=by
 intro k hl a w hs
 have h0:ops[k]? =some o:=by simpa using (hl 0).symm
 obtain ⟨M,hn,hd,he,hI⟩:=hs
 simp only [List.length_cons,List.range'_succ,wpS,h0]
 have hy:=FK (M:=M) (w:=w) (b:=some b) hj (he g _ hb)
 rw [Eb hg hy,if_pos (by simp [HR])]
 exact (h _ M w a hn hd he hI fun E' I' a' w' hT hst=>hT (k+1) (fun j=>by have:=hl (j+1);simpa [Nat.add_assoc,Nat.add_comm 1 j] using this) a' w' hst)
theorem TO.LG {d:Nat} {p:Pr} (hg:o.guard=some (j,want)) (hj:(ops[j]?).bind (·.dst)=some g) (hb:E.lookup g=some (bool b)) (HR:b=want) (hd:o.dst=some d) (hn:d<n) (h:AH P I o E p) (k:TO P n ops r ((d,p)::E) I Q):TO P n ops (o::r) E I Q:=
 TO.gG hg hj hb HR fun K M w a h1 h2 h3 h4 hK=>by
  refine EM (h M w a (Bo h3) h4) fun v w' hv hb'=>hK _ _ _ _ k ⟨M,?_,?_,?_,I.st _ _ _ hb' h4⟩
  · rw [BL];exact h1
  · rw [put_defers];exact h2
  ·
   have:=h3.put (o:=o) (p:=p) hb' hv (fun d' hd'=>by rw [hd] at hd';cases hd';rw [h1];exact hn)
   rw [show upd o p E=(d,p)::E by unfold upd;rw [hd]] at this;exact this
theorem TO.Qy {d:Nat} (hg:o.guard=some (j,want)) (hj:(ops[j]?).bind (·.dst)=some g) (hb:E.lookup g=some (bool b)) (HR:b≠want) (hd:o.dst=some d) (hn:d<n) (kk:TO P n ops r ((d,is undef)::E) I Q):TO P n ops (o::r) E I Q:=by
 intro k hl a w hs
 have h0:ops[k]? =some o:=by simpa using (hl 0).symm
 obtain ⟨M,h1,h2,he,hI⟩:=hs
 simp only [List.length_cons,List.range'_succ,wpS,h0]
 have hy:=FK (M:=M) (w:=w) (b:=some b) hj (he g _ hb)
 rw [Eb hg hy,if_neg (by simp [HR])]
 refine kk (k+1) (fun j=>by have:=hl (j+1);simpa [Nat.add_assoc,Nat.add_comm 1 j] using this) _ w ⟨M,by rw [BL];exact h1,by rw [put_defers];exact h2,?_,hI⟩
 have:=he.put (o:=o) (p:=is undef) (v:=undef) (Below.refl w.heap.size w) rfl (fun d' hd'=>by rw [hd] at hd';cases hd';rw [h1];exact hn)
 rw [show upd o (is undef) E=(d,is undef)::E by unfold upd;rw [hd]] at this;exact this
variable {M0:Av} {w0:World} {S:Nat→Prop} {rs:List Aa}
theorem TO.gH {d:Nat} {p:Pr} (i:Nat) {R:Aa} {R':Aa} (hg:o.guard=some (j,want)) (hj:(ops[j]?).bind (·.dst)=some g) (hb:E.lookup g=some (bool b)) (HR:b=want) (hR:rs[i]? =some R) (hd:o.dst=some d) (hn:d<n) (h:Cd P M0 w0 S n i (SR.c R) (SR.c R') { o with guard:=none } E p)
  (k:TO P n ops r ((d,p)::E) (Hp M0 w0 S (rs.set i R')) Q):TO P n ops (o::r) E (Hp M0 w0 S rs) Q:=
 TO.gG hg hj hb HR fun K M w a hsz hdf he hI hK=>by
  have hw : ({ o with guard := none } : Oper).wp P a w K Q := HW (h.2 M w a rs hsz (Bo he) hI hR) fun v w' M' hv hx NC => hK _ _ _ _ k ⟨M', by rw [BL]; exact hsz, by rw [put_defers]; exact hdf, by
   intro s q hq
   simp only [List.lookup] at hq
   by_cases hs:s=d
   · subst hs;simp at hq;subst hq;show p.h M' w' ((a.put o.dst v).tmps.getD s undef);rw [hd,A8 (by rw [hsz];exact hn)];exact hv
   · rw [show (s==d)=false by simpa using hs] at hq;show q.h M' w' ((a.put o.dst v).tmps.getD s undef);rw [hd,Ap hs];exact q.st _ _ _ _ _ hx (he s q hq),NC⟩
  exact hw
end
section
variable {P:Program} {L:Lg P} {E:Env} {I:Bn} {o:Oper}
end
end Cp
