/-
  Part 2 of the texts that prove this claim, merged.
-/
import Derived.ChangeArms
import Derived.OpenShut
import Derived.ChangeSame
import Derived.RowKit
import Derived.ProofKit
import Derived.Laws.MakeOwn
import Derived.Test.YtgilhkjlfongoaaGreatProg
import Derived.KernelRfl
import Derived.Lib.ConvBytes
import Derived.Lib.Bytealg
import Derived.Laws.StructEq
import Derived.Laws.Externs
import Derived.Lib.AtoiErrMem
import Derived.Laws.IdiomRangeMap
import Derived.Sort.LotA
import Derived.Sort.LotB
import Derived.Sort.LotC
import Derived.Lib.AppendZeros
import Derived.Lib.AppendZerosOnto
import Derived.Test.YtgilhkjlfongoaaGreatIdMadeP1
set_option linter.all false
set_option maxRecDepth 40000
set_option maxHeartbeats 16000000
namespace Cp
open Go Go.RowKit Go.Great Go.ChangeShapes Go.WideShapes
def Xm:Av:=fun _ _=>False
theorem Xn (w:World):Bd Xm w:=fun _ _ h=>h.elim
def Et (P:Program) (t:TypeId) {α:Type} (ok:α→Prop) (f:α→List Pr):Prop:=
 ∀(H:Type) (enc:TypeId×Value→H) (w:World) (fuel:Nat) (cs:List Value) (x:DataW H×List MemPlace),DataW.trod enc P w 0 (fun _=>true) true fuel t cs=some x→∃a,ok a∧HL Xm w (f a) cs∧∀c∈cs,c.oneCell'=true
theorem Et.map {P:Program} {t:TypeId} {α β:Type} {ok:α→Prop} {f:α→List Pr} {ok':β→Prop} {f':β→List Pr} (h:Et P t ok f) (g:α→β) (h1:∀a,ok a→ok' (g a)) (h2:∀a,f' (g a)=f a):Et P t ok' f':=by
 intro H enc w fuel cs x hx
 obtain ⟨a,h3,h4,h5⟩:=h H enc w fuel cs x hx
 exact ⟨g a,h1 a h3,by rw [h2];exact h4,h5⟩
theorem Cc {P:Program} {t:TypeId} {k:IntKind} (ht:P.underlying t=some (.int k)):Et P t (fun n:Int=>(Lit.int k n).wf=true) (fun n=>[is (.int k n)]):=by
 intro H enc w fuel cs x hx
 obtain ⟨n,rfl,_,hw⟩:=DataW.trod_int ht hx
 exact ⟨n,hw,⟨rfl,trivial⟩,by simp [Value.oneCell']⟩
theorem Fc {P:Program} {t:TypeId} (ht:P.underlying t=some .string):Et P t (fun s:ByteArray=>s.size≤maxLen) (fun s=>[is (.string s)]):=by
 intro H enc w fuel cs x hx
 obtain ⟨n,rfl,_,h⟩:=DataW.trod_string ht hx
 exact ⟨n,h,⟨rfl,trivial⟩,by simp [Value.oneCell']⟩
theorem HL.len {M:Av} {w:World}:∀{ps:List Pr} {vs:List Value},HL M w ps vs→ps.length=vs.length
 |[],[],_=>rfl
 |p::ps,v::vs,h=>by simp [HL.len h.2]
 |[],_::_,h=>h.elim
 |_::_,[],h=>h.elim
theorem HL.nth {M:Av} {w:World}:∀{ps:List Pr} {vs:List Value} (j:Nat) (p:Pr),HL M w ps vs→ps[j]? =some p→∃v,vs[j]? =some v∧p.h M w v
 |p::ps,v::vs,0,q,h,hj=>by simp at hj;subst hj;exact ⟨v,rfl,h.1⟩
 |p::ps,v::vs,j+1,q,h,hj=>by simpa using HL.nth j q h.2 (by simpa using hj)
 |[],[],_,_,_,hj=>by simp at hj
 |[],_::_,_,_,h,_=>h.elim
 |_::_,[],_,_,h,_=>h.elim
theorem KQ {H:Type} {enc:TypeId×Value→H} {P:Program} {w:World} {e:TypeId} {α:Type} {ok:α→Prop} {f:α→List Pr} (he:Et P e ok f) {sz:Nat} (hc:P.cellsOf e=sz) {a:Addr} {m:Nat}:
  ∀(len:Nat),(∀i,i<len→∃y,(w.cells? 0 (a.add (i*sz)) sz).bind (DataW.trod enc P w 0 (fun _=>true) true m e)=some y)→
   ∃l:List α,l.length=len∧(∀z∈l,ok z)∧∀(i:Nat) z,l[i]? =some z→(f z).length=sz∧Row Xm w a (i*sz) (f z)
 |0,_=>⟨[],rfl,by simp,by simp⟩
 |len+1,h=>by
  obtain ⟨l,h1,h2,h3⟩:=KQ he hc len (fun i hi=>h i (by omega))
  obtain ⟨y,hy⟩:=h len (by omega)
  obtain ⟨cs,hcs,hy⟩:=Option.bind_eq_some_iff.1 hy
  obtain ⟨z,hz,hl,h1c⟩:=he H enc w m cs y hy
  obtain ⟨_,hlen,Se⟩:=World.cells?_some hcs
  refine ⟨l++[z],by simp [h1],?_,fun i u hu=> ?_⟩
  ·
   intro u hu
   rcases List.mem_append.1 hu with hu|hu
   · exact h2 u hu
   · rw [List.mem_singleton.1 hu];exact hz
  ·
   rcases Nat.lt_trichotomy i len with hi|hi|hi
   ·
    rw [List.getElem?_append_left (by omega)] at hu
    exact h3 i u hu
   ·
    subst hi
    rw [List.getElem?_append_right (by omega),h1] at hu
    simp at hu;subst hu
    have hfl:(f z).length=sz:=by rw [hl.len,hlen]
    refine ⟨hfl,fun j p hp=> ?_⟩
    obtain ⟨v,hv,G2⟩:=hl.nth j p hp
    have hj:j<sz:=by
     rcases Nat.lt_or_ge j (f z).length with h'|h'
     · omega
     · rw [List.getElem?_eq_none h'] at hp;cases hp
    refine ⟨v,?_,fun hf=>hf,h1c v (List.mem_of_getElem? hv),G2⟩
    rw [←hv,←Se j hj]
    rw [add_add]
   · rw [List.getElem?_eq_none (by simp [h1];omega)] at hu;cases hu
theorem NX {P:Program} {t e:TypeId} {α:Type} {ok:α→Prop} {f:α→List Pr} {sz:Nat} (ht:P.underlying t=some (.slice e)) (hc:P.cellsOf e=sz) (he:Et P e ok f):
  Et P t (fun l:List α=>(∀z∈l,ok z)∧l.length≤maxLen) (fun l=>[slice sz (l.map f)]):=by
 intro H enc w fuel cs x hx
 rcases DataW.trod_slice ht hx with ⟨rfl,_⟩|⟨a,len,cap,elems,rest,n,rfl,rfl,_,_,hl,hm,hel,Se,_⟩
 · exact ⟨[],⟨by simp,by simp⟩,⟨⟨none,0,rfl,by simp,by simp,fun _=>rfl,by simp⟩,trivial⟩,by simp [Value.oneCell']⟩
 ·
  obtain ⟨l,h1,h2,h3⟩:=KQ (H:=H) (enc:=enc) (w:=w) (a:=a) (m:=n) he hc len (fun i hi=>by
   have:=Se i hi
   rw [hc] at this
   rw [this,List.getElem?_eq_getElem (by omega)]
   exact ⟨_,rfl⟩)
  refine ⟨l,⟨h2,by omega⟩,⟨⟨some a,cap,by simp [h1],by simp;omega,hm,by simp,fun i row hr=> ?_⟩,trivial⟩,by simp [Value.oneCell']⟩
  rw [List.getElem?_map] at hr
  cases hz:l[i]? with
  |none=>rw [hz] at hr;cases hr
  |some z=>
   rw [hz] at hr;simp at hr;subst hr
   obtain ⟨h4,h5⟩:=h3 i z hz
   exact ⟨h4,a,rfl,h5⟩
def Me (P:Program) (o:Nat) (fs:List Field) {α:Type} (ok:α→Prop) (f:α→List Pr):Prop:=
 ∀(H:Type) (enc:TypeId×Value→H) (w:World) (n:Nat) (cs:List Value),(∀fl∈fs,∃y,DataW.trod (H:=H) enc P w 0 (fun _=>true) true n fl.type ((cs.drop fl.offset).take (P.cellsOf fl.type))=some y)→
  cs.length=o+(fs.map fun fl=>P.cellsOf fl.type).sum→∃a,ok a∧HL Xm w (f a) (cs.drop o)∧∀c∈cs.drop o,c.oneCell'=true
theorem KR (P:Program) (o:Nat):Me P o [] (fun _:Unit=>True) (fun _=>[]):=by
 intro H enc w n cs _ hl
 have:cs.drop o=[]:=List.drop_eq_nil_of_le (by simp at hl;omega)
 rw [this]
 exact ⟨(),trivial,trivial,by simp⟩
theorem Bl {P:Program} {o c:Nat} {fl:Field} {fs:List Field} {α β:Type} {ok:α→Prop} {f:α→List Pr} {ok':β→Prop} {f':β→List Pr} (ho:fl.offset=o) (hc:P.cellsOf fl.type=c)
  (h:Et P fl.type ok f) (k:Me P (o+c) fs ok' f'):Me P o (fl::fs) (fun z:α×β=>ok z.1∧ok' z.2) (fun z=>f z.1++f' z.2):=by
 intro H enc w n cs hy hl
 obtain ⟨y,h0⟩:=hy fl (List.mem_cons_self ..)
 rw [ho,hc] at h0
 obtain ⟨a,h1,h2,h3⟩:=h H enc w n _ y h0
 obtain ⟨b,h4,h5,h6⟩:=k H enc w n cs (fun g hg=>hy g (List.mem_cons_of_mem _ hg)) (by rw [hl];simp [hc];omega)
 have e:cs.drop o=(cs.drop o).take c++cs.drop (o+c):=by rw [←List.drop_drop,List.take_append_drop]
 refine ⟨(a,b),⟨h1,h4⟩,by rw [e];exact h2.app h5,fun v hv=> ?_⟩
 rw [e] at hv
 rcases List.mem_append.1 hv with hv|hv
 · exact h3 v hv
 · exact h6 v hv
theorem Hl {P:Program} {t:TypeId} {fs:Array Field} {α:Type} {ok:α→Prop} {f:α→List Pr} (ht:P.underlying t=some (.struct fs)) (hc:P.cellsOf t=(fs.toList.map fun fl=>P.cellsOf fl.type).sum) (h:Me P 0 fs.toList ok f):Et P t ok f:=by
 intro H enc w fuel cs x hx
 obtain ⟨xs,n,rfl,_,hl,hxs,Se⟩:=DataW.trod_struct ht hx
 obtain ⟨a,h1,h2,h3⟩:=h H enc w n cs (fun fl hfl=>by
  obtain ⟨i,hi⟩:=List.mem_iff_getElem?.1 hfl
  have hi':fs[i]? =some fl:=by simpa using hi
  have:=Se i fl hi'
  rw [this]
  have hlt:i<fs.size:=by
   rcases Nat.lt_or_ge i fs.size with h'|h'
   · exact h'
   · rw [Array.getElem?_eq_none h'] at hi';cases hi'
  exact ⟨_,List.getElem?_eq_getElem (by omega)⟩) (by rw [hl,hc];simp)
 exact ⟨a,h1,by simpa using h2,by simpa using h3⟩
theorem QT {H:Type} {enc:TypeId×Value→H} {P:Program} {w:World} {t:TypeId} {α:Type} {ok:α→Prop} {p:α→Pr} (ho:Et P t ok (fun a=>[p a])) {v:Value} {d:DataW H} {ps:List MemPlace} (h:DataW.Trod enc P w 0 (fun _=>true) true t v d ps) (hv:v.cells= #[v]):
  ∃a,ok a∧(p a).h Xm w v:=by
 obtain ⟨fuel,hf⟩:=h
 obtain ⟨a,h1,h2,_⟩:=ho _ _ _ _ _ _ hf
 rw [hv] at h2
 exact ⟨a,h1,h2.1⟩
theorem U_ {H:Type} {enc:TypeId×Value→H} {P:Program} {w:World} {t:TypeId} {α:Type} {ok:α→Prop} {f:α→List Pr} (ho:Et P t ok f) {v:Value} {d:DataW H} {ps:List MemPlace} (h:DataW.Trod enc P w 0 (fun _=>true) true t v d ps) (hv:∃cs,v= .agg cs):
  ∃a,ok a∧(agg (f a)).h Xm w v:=by
 obtain ⟨fuel,hf⟩:=h
 obtain ⟨cs,rfl⟩:=hv
 obtain ⟨a,h1,h2,h3⟩:=ho _ _ _ _ _ _ hf
 exact ⟨a,h1,cs.toList,by simp,h3,h2⟩
theorem G_ {H:Type} {enc:TypeId×Value→H} {P:Program} (hl:laidOutB P=true) {W W':World} (hb:Below W.heap.size W W'):
  ∀{ts:List TypeId} {vs:List Value} {ds:List (DataW H)} {ps:List MemPlace},ts.all (fun t=>P.readableRec t&&decide (t<P.types.size))=true→DataW.TrodAll enc P W 0 (fun _=>true) true ts vs ds ps→(∀x∈ps,x.block<W.heap.size)→
   DataW.TrodAll enc P W' 0 (fun b=>decide (b<W.heap.size)) true ts vs ds ps
 |[],vs,ds,ps,_,h,_=>by
  obtain ⟨rfl,rfl,rfl⟩:=trodAll_nil h
  rfl
 |t::ts,vs,ds,ps,hr,h,hlt=>by
  obtain ⟨v,vs',d,ds',p,q,rfl,rfl,rfl,h1,h2⟩:=trodAll_cons h
  simp only [List.all_cons,Bool.and_eq_true,decide_eq_true_eq] at hr
  exact ⟨p,q,Below.trod hl hr.1.1 hr.1.2 h1 hb (fun x hx=>hlt x (List.mem_append_left _ hx)),G_ hl hb (by simpa using hr.2) h2 (fun x hx=>hlt x (List.mem_append_right _ hx)),rfl⟩
theorem Sf {H:Type} {enc:TypeId×Value→H} {P:Program} {fn:Func} {s:ChangeSpec} {W W':World} {args:Array Value} {ds gs:List (DataW H)} {before p:List MemPlace} {tb:TypeId} (hl:laidOutB P=true)
  (hr:fn.params.toList.all (fun t=>P.readableRec t&&decide (t<P.types.size))=true) (hres:fn.resultTypes= #[tb]) (hb:P.underlying tb=some .bool) (hs:s.vars=[])
  (hA:DataW.TrodAll enc P W 0 (fun _=>true) true fn.params.toList args.toList ds p) (hp:before=p) (hW:DataW.Whole enc P fn.params.toList s.vars false W args.toList ds gs before)
  (hf:s.fn H (ds++gs)={ results:=[.lit (.bool true)],args:=ds }) (Sg:Below W.heap.size W W'):s.post enc P fn false true false false W args (.bool true) W':=by
 subst hp
 refine ⟨ds,gs,before,[],before,[],hW,?_,?_,?_,Sg.frame _,fun h=>by cases h⟩
 · rw [hf,hres];exact trodAll_mk1 (shut_bool hb _)
 · rw [hf];exact G_ hl Sg hr hA (fun x hx=>by simpa using hW.lt x hx)
 · rw [hf,hs];rfl
end Cp
namespace Cp
open Go Go.RowKit Go.Great
section
variable {P:Program} {L:Lg P} {n:Fm} {fz:Nat} {E:Env} {I:B5} {Q:Exit→Act→World→Prop}
theorem Tr.Sh {α0:Type} (K:Env) (hK:Bp E K) (F:α0→Env) (Ii:α0→B5) (C:α0→Prop) (μ:α0→Nat) {c:Code} (Gi:α0)  (h0:C Gi) (hs:Bp E (F Gi)) (hI:∀M w,I.h M w→(Ii Gi).h M w)
  (round:∀x0,C x0→Tr L n (F x0++K) (Ii x0) c (Exit.then (fun a w=>∃Cd,(C Cd∧μ Cd<μ x0)∧St n (F Cd++K) (Ii Cd) a w) Q)):Tr L n E I (.loop c) Q:=
 Tr.F0 K hK (fun y:α0=>F y) (fun y=>Ii y) (fun y=>C y) (fun y=>μ y) Gi h0 hs hI fun y hy=>
  Tr.post (round y hy) fun e a w h=>by
   cases e<;>first|exact h|(obtain ⟨Cd,h1,h2⟩:=h;exact ⟨Cd,h1,h2⟩)
theorem Fin.Ds {α0:Type} {E1:α0→Env} {I1:α0→B5} {C:α0→Prop} (x0:α0)  (hC:C x0) (hs:Bp E (E1 x0)) (hI:∀M w,I.h M w→(I1 x0).h M w):
  Fin n E I (Exit.then (fun a w=>∃Cd,C Cd∧St n (E1 Cd) (I1 Cd) a w) Q) .normal:=fun _ _ hst=>⟨x0,hC,hst.sub hs hI⟩
theorem Tr.NY {α0:Type} (K:Env) (hK:Bp E K) (F:α0→Value→Env) (Ii:α0→Value→B5) (C:α0→Prop) (μ:α0→Nat) {c:Code} (Gi:α0) (Si:Value) (h0:C Gi) (hs:Bp E (F Gi Si)) (hI:∀M w,I.h M w→(Ii Gi Si).h M w)
  (round:∀x0 v0,C x0→Tr L n (F x0 v0++K) (Ii x0 v0) c (Exit.then (fun a w=>∃Cd KS,(C Cd∧μ Cd<μ x0)∧St n (F Cd KS++K) (Ii Cd KS) a w) Q)):Tr L n E I (.loop c) Q:=
 Tr.F0 K hK (fun y:α0×Value=>F y.1 y.2) (fun y=>Ii y.1 y.2) (fun y=>C y.1) (fun y=>μ y.1) (Gi,Si) h0 hs hI fun y hy=>
  Tr.post (round y.1 y.2 hy) fun e a w h=>by
   cases e<;>first|exact h|(obtain ⟨Cd,KS,h1,h2⟩:=h;exact ⟨(Cd,KS),h1,h2⟩)
theorem Fin.Fe {α0:Type} {E1:α0→Value→Env} {I1:α0→Value→B5} {C:α0→Prop} (x0:α0) (v0:Value) (hC:C x0) (hs:Bp E (E1 x0 v0)) (hI:∀M w,I.h M w→(I1 x0 v0).h M w):
  Fin n E I (Exit.then (fun a w=>∃Cd KS,C Cd∧St n (E1 Cd KS) (I1 Cd KS) a w) Q) .normal:=fun _ _ hst=>⟨x0,v0,hC,hst.sub hs hI⟩
theorem Tr.Ca {α0 α1:Type} (K:Env) (hK:Bp E K) (F:α0→α1→Env) (Ii:α0→α1→B5) (C:α0→α1→Prop) (μ:α0→α1→Nat) {c:Code} (Gi:α0) (Jm:α1)  (h0:C Gi Jm) (hs:Bp E (F Gi Jm)) (hI:∀M w,I.h M w→(Ii Gi Jm).h M w)
  (round:∀x0 x1,C x0 x1→Tr L n (F x0 x1++K) (Ii x0 x1) c (Exit.then (fun a w=>∃Cd Dt,(C Cd Dt∧μ Cd Dt<μ x0 x1)∧St n (F Cd Dt++K) (Ii Cd Dt) a w) Q)):Tr L n E I (.loop c) Q:=
 Tr.F0 K hK (fun y:α0×α1=>F y.1 y.2) (fun y=>Ii y.1 y.2) (fun y=>C y.1 y.2) (fun y=>μ y.1 y.2) (Gi,Jm) h0 hs hI fun y hy=>
  Tr.post (round y.1 y.2 hy) fun e a w h=>by
   cases e<;>first|exact h|(obtain ⟨Cd,Dt,h1,h2⟩:=h;exact ⟨(Cd,Dt),h1,h2⟩)
theorem Fin.Bw {α0 α1:Type} {E1:α0→α1→Env} {I1:α0→α1→B5} {C:α0→α1→Prop} (x0:α0) (x1:α1)  (hC:C x0 x1) (hs:Bp E (E1 x0 x1)) (hI:∀M w,I.h M w→(I1 x0 x1).h M w):
  Fin n E I (Exit.then (fun a w=>∃Cd Dt,C Cd Dt∧St n (E1 Cd Dt) (I1 Cd Dt) a w) Q) .normal:=fun _ _ hst=>⟨x0,x1,hC,hst.sub hs hI⟩
theorem Tr.Sj {α0 α1:Type} (K:Env) (hK:Bp E K) (F:α0→α1→Value→Env) (Ii:α0→α1→Value→B5) (C:α0→α1→Prop) (μ:α0→α1→Nat) {c:Code} (Gi:α0) (Jm:α1) (Si:Value) (h0:C Gi Jm) (hs:Bp E (F Gi Jm Si)) (hI:∀M w,I.h M w→(Ii Gi Jm Si).h M w)
  (round:∀x0 x1 v0,C x0 x1→Tr L n (F x0 x1 v0++K) (Ii x0 x1 v0) c (Exit.then (fun a w=>∃Cd Dt KS,(C Cd Dt∧μ Cd Dt<μ x0 x1)∧St n (F Cd Dt KS++K) (Ii Cd Dt KS) a w) Q)):Tr L n E I (.loop c) Q:=
 Tr.F0 K hK (fun y:α0×α1×Value=>F y.1 y.2.1 y.2.2) (fun y=>Ii y.1 y.2.1 y.2.2) (fun y=>C y.1 y.2.1) (fun y=>μ y.1 y.2.1) (Gi,Jm,Si) h0 hs hI fun y hy=>
  Tr.post (round y.1 y.2.1 y.2.2 hy) fun e a w h=>by
   cases e<;>first|exact h|(obtain ⟨Cd,Dt,KS,h1,h2⟩:=h;exact ⟨(Cd,Dt,KS),h1,h2⟩)
theorem Fin.QU {α0 α1:Type} {E1:α0→α1→Value→Env} {I1:α0→α1→Value→B5} {C:α0→α1→Prop} (x0:α0) (x1:α1) (v0:Value) (hC:C x0 x1) (hs:Bp E (E1 x0 x1 v0)) (hI:∀M w,I.h M w→(I1 x0 x1 v0).h M w):
  Fin n E I (Exit.then (fun a w=>∃Cd Dt KS,C Cd Dt∧St n (E1 Cd Dt KS) (I1 Cd Dt KS) a w) Q) .normal:=fun _ _ hst=>⟨x0,x1,v0,hC,hst.sub hs hI⟩
theorem Tr.KT {α0 α1 α2:Type} (K:Env) (hK:Bp E K) (F:α0→α1→α2→Env) (Ii:α0→α1→α2→B5) (C:α0→α1→α2→Prop) (μ:α0→α1→α2→Nat) {c:Code} (Gi:α0) (Jm:α1) (QV:α2)  (h0:C Gi Jm QV) (hs:Bp E (F Gi Jm QV)) (hI:∀M w,I.h M w→(Ii Gi Jm QV).h M w)
  (round:∀x0 x1 x2,C x0 x1 x2→Tr L n (F x0 x1 x2++K) (Ii x0 x1 x2) c (Exit.then (fun a w=>∃Cd Dt HA,(C Cd Dt HA∧μ Cd Dt HA<μ x0 x1 x2)∧St n (F Cd Dt HA++K) (Ii Cd Dt HA) a w) Q)):Tr L n E I (.loop c) Q:=
 Tr.F0 K hK (fun y:α0×α1×α2=>F y.1 y.2.1 y.2.2) (fun y=>Ii y.1 y.2.1 y.2.2) (fun y=>C y.1 y.2.1 y.2.2) (fun y=>μ y.1 y.2.1 y.2.2) (Gi,Jm,QV) h0 hs hI fun y hy=>
  Tr.post (round y.1 y.2.1 y.2.2 hy) fun e a w h=>by
   cases e<;>first|exact h|(obtain ⟨Cd,Dt,HA,h1,h2⟩:=h;exact ⟨(Cd,Dt,HA),h1,h2⟩)
theorem Fin.Ho {α0 α1 α2:Type} {E1:α0→α1→α2→Env} {I1:α0→α1→α2→B5} {C:α0→α1→α2→Prop} (x0:α0) (x1:α1) (x2:α2)  (hC:C x0 x1 x2) (hs:Bp E (E1 x0 x1 x2)) (hI:∀M w,I.h M w→(I1 x0 x1 x2).h M w):
  Fin n E I (Exit.then (fun a w=>∃Cd Dt HA,C Cd Dt HA∧St n (E1 Cd Dt HA) (I1 Cd Dt HA) a w) Q) .normal:=fun _ _ hst=>⟨x0,x1,x2,hC,hst.sub hs hI⟩
theorem Tr.Sk {α0 α1 α2:Type} (K:Env) (hK:Bp E K) (F:α0→α1→α2→Value→Env) (Ii:α0→α1→α2→Value→B5) (C:α0→α1→α2→Prop) (μ:α0→α1→α2→Nat) {c:Code} (Gi:α0) (Jm:α1) (QV:α2) (Si:Value) (h0:C Gi Jm QV) (hs:Bp E (F Gi Jm QV Si)) (hI:∀M w,I.h M w→(Ii Gi Jm QV Si).h M w)
  (round:∀x0 x1 x2 v0,C x0 x1 x2→Tr L n (F x0 x1 x2 v0++K) (Ii x0 x1 x2 v0) c (Exit.then (fun a w=>∃Cd Dt HA KS,(C Cd Dt HA∧μ Cd Dt HA<μ x0 x1 x2)∧St n (F Cd Dt HA KS++K) (Ii Cd Dt HA KS) a w) Q)):Tr L n E I (.loop c) Q:=
 Tr.F0 K hK (fun y:α0×α1×α2×Value=>F y.1 y.2.1 y.2.2.1 y.2.2.2) (fun y=>Ii y.1 y.2.1 y.2.2.1 y.2.2.2) (fun y=>C y.1 y.2.1 y.2.2.1) (fun y=>μ y.1 y.2.1 y.2.2.1) (Gi,Jm,QV,Si) h0 hs hI fun y hy=>
  Tr.post (round y.1 y.2.1 y.2.2.1 y.2.2.2 hy) fun e a w h=>by
   cases e<;>first|exact h|(obtain ⟨Cd,Dt,HA,KS,h1,h2⟩:=h;exact ⟨(Cd,Dt,HA,KS),h1,h2⟩)
theorem Fin.VA {α0 α1 α2:Type} {E1:α0→α1→α2→Value→Env} {I1:α0→α1→α2→Value→B5} {C:α0→α1→α2→Prop} (x0:α0) (x1:α1) (x2:α2) (v0:Value) (hC:C x0 x1 x2) (hs:Bp E (E1 x0 x1 x2 v0)) (hI:∀M w,I.h M w→(I1 x0 x1 x2 v0).h M w):
  Fin n E I (Exit.then (fun a w=>∃Cd Dt HA KS,C Cd Dt HA∧St n (E1 Cd Dt HA KS) (I1 Cd Dt HA KS) a w) Q) .normal:=fun _ _ hst=>⟨x0,x1,x2,v0,hC,hst.sub hs hI⟩
theorem Tr.Sl {α0 α1 α2 α3:Type} (K:Env) (hK:Bp E K) (F:α0→α1→α2→α3→Env) (Ii:α0→α1→α2→α3→B5) (C:α0→α1→α2→α3→Prop) (μ:α0→α1→α2→α3→Nat) {c:Code} (Gi:α0) (Jm:α1) (QV:α2) (dx:α3)  (h0:C Gi Jm QV dx) (hs:Bp E (F Gi Jm QV dx)) (hI:∀M w,I.h M w→(Ii Gi Jm QV dx).h M w)
  (round:∀x0 x1 x2 x3,C x0 x1 x2 x3→Tr L n (F x0 x1 x2 x3++K) (Ii x0 x1 x2 x3) c (Exit.then (fun a w=>∃Cd Dt HA Us,(C Cd Dt HA Us∧μ Cd Dt HA Us<μ x0 x1 x2 x3)∧St n (F Cd Dt HA Us++K) (Ii Cd Dt HA Us) a w) Q)):Tr L n E I (.loop c) Q:=
 Tr.F0 K hK (fun y:α0×α1×α2×α3=>F y.1 y.2.1 y.2.2.1 y.2.2.2) (fun y=>Ii y.1 y.2.1 y.2.2.1 y.2.2.2) (fun y=>C y.1 y.2.1 y.2.2.1 y.2.2.2) (fun y=>μ y.1 y.2.1 y.2.2.1 y.2.2.2) (Gi,Jm,QV,dx) h0 hs hI fun y hy=>
  Tr.post (round y.1 y.2.1 y.2.2.1 y.2.2.2 hy) fun e a w h=>by
   cases e<;>first|exact h|(obtain ⟨Cd,Dt,HA,Us,h1,h2⟩:=h;exact ⟨(Cd,Dt,HA,Us),h1,h2⟩)
theorem Fin.C2 {α0 α1 α2 α3:Type} {E1:α0→α1→α2→α3→Env} {I1:α0→α1→α2→α3→B5} {C:α0→α1→α2→α3→Prop} (x0:α0) (x1:α1) (x2:α2) (x3:α3)  (hC:C x0 x1 x2 x3) (hs:Bp E (E1 x0 x1 x2 x3)) (hI:∀M w,I.h M w→(I1 x0 x1 x2 x3).h M w):
  Fin n E I (Exit.then (fun a w=>∃Cd Dt HA Us,C Cd Dt HA Us∧St n (E1 Cd Dt HA Us) (I1 Cd Dt HA Us) a w) Q) .normal:=fun _ _ hst=>⟨x0,x1,x2,x3,hC,hst.sub hs hI⟩
end
structure DS where
 l:List Int
 at_:Nat
 h:at_≤l.length
 h2:l.length≤1000000000
def DS.val (s:DS) (n:Int):Int:=match s.l[s.at_]? with|some x=>x % n|none=>0
def DS.DR (s:DS):DS:=if h:s.at_<s.l.length then ⟨s.l,s.at_+1,h,s.h2⟩ else s
theorem DS.C7 (s:DS) {n:Int} (hn:1≤n):0≤s.val n∧s.val n<n:=by
 unfold DS.val
 split
 · exact ⟨Int.emod_nonneg _ (by omega),Int.emod_lt_of_pos _ (by omega)⟩
 · omega
theorem DS.VB {s:DS} (h:s.l.length≤s.at_) (n:Int):s.val n=0:=by
 unfold DS.val;rw [List.getElem?_eq_none h]
theorem DS.VC {s:DS} (h:s.l.length≤s.at_):s.DR=s:=by
 unfold DS.DR;rw [dif_neg (by omega)]
theorem DS.Xo {s:DS} {x:Int} (h:s.l[s.at_]? =some x) (n:Int):s.val n=x % n:=by
 unfold DS.val;rw [h]
theorem DS.Xp {s:DS} (h:s.at_<s.l.length):s.DR=⟨s.l,s.at_+1,h,s.h2⟩:=by
 unfold DS.DR;rw [dif_pos h]
def Ij (s:DS):List Pr:=[slice 1 (s.l.map fun n=>[int n]),int ((s.at_:Nat):Int)]
def NZ (T:TypeId) (b:Nat) (s:DS):Ao:=AA true b T (Ij s)
def HK (T:TypeId) (b:Nat):Ao:=Hj true b T (fun _:DS=>True) Ij
def DS.of (s:DS) (l:List Int):Int:=(l[(s.val l.length).toNat]?).getD 0
theorem DS.Ox (s:DS) {l:List Int} (h:l≠[]):s.of l∈l:=by
 have h0:1≤(l.length:Int):=by
  have:=List.length_pos_iff.2 h
  omega
 have:=s.C7 h0
 unfold DS.of
 rw [List.getElem?_eq_getElem (by omega)]
 exact List.getElem_mem _
section
variable {P:Program} {L:Lg P} {n:Fm} {fz:Nat} {E:Env} {M0:Av} {w0:World} {S:Nat→Prop} {rs:List Ao}
theorem Tr.Na {Q:Exit→Act→World→Prop} {c:Code} (i:Nat) {T:TypeId} {b:Nat} (hi:rs[i]? =some (HK T b)) (k:∀s,Tr L n E (Hp M0 w0 S (rs.set i (NZ T b s))) c Q):Tr L n E (Hp M0 w0 S rs) c Q:=
 Tr.Z0 i hi fun s _=>k s
theorem Fin.Na {Q:Exit→Act→World→Prop} {e:Exit} (i:Nat) {T:TypeId} {b:Nat} (hi:rs[i]? =some (HK T b)) (k:∀s,Fin n E (Hp M0 w0 S (rs.set i (NZ T b s))) Q e):Fin n E (Hp M0 w0 S rs) Q e:=by
 rintro a w ⟨M,h1,h2,h3,h4⟩
 have h4:Am M0 w0 S rs M w:=h4
 obtain ⟨x,hx,hh⟩:=(h4.hold _ (List.mem_of_getElem? hi)).1
 exact k x a w ⟨M,h1,h2,h3,h4.Bt hi rfl rfl hh⟩
theorem Fin.EM {Q:Exit→Act→World→Prop} {e:Exit} (i:Nat) {T:TypeId} {b:Nat} (s:DS) {ps:List Pr} (hi:rs[i]? =some (AA true b T ps)) (hp:ps=Ij s) (k:Fin n E (Hp M0 w0 S (rs.set i (HK T b))) Q e):Fin n E (Hp M0 w0 S rs) Q e:=
 Fin.Ig i (fun _=>True) Ij s trivial hi hp k
theorem Tr.EM {Q:Exit→Act→World→Prop} {c:Code} (i:Nat) {T:TypeId} {b:Nat} (s:DS) {ps:List Pr} (hi:rs[i]? =some (AA true b T ps)) (hp:ps=Ij s) (k:Tr L n E (Hp M0 w0 S (rs.set i (HK T b))) c Q):Tr L n E (Hp M0 w0 S rs) c Q:=
 Tr.Ig i (fun _=>True) Ij s trivial hi hp k
theorem TO.Xq {ops:Array Oper} {l:List Oper} {Q:Exit→Act→World→Prop} (s j:Nat) {v:Value} {f:Value→Ao} (g:Nat→Ao) (hs:E.lookup s=some (Aq v (Cp.ex fun b=>ptr b 0))) (hi:rs[j]? =some (f v)) (hf:∀b,f (.pointer (some ⟨b,0,none⟩))=g b)
  (k:∀b,TO P n ops l ((s,ptr b 0)::E) (Hp M0 w0 S (rs.set j (g b))) Q):TO P n ops l E (Hp M0 w0 S rs) Q:=by
 intro k0 hl a w hst
 obtain ⟨M,h1,h2,he,h4⟩:=hst
 obtain ⟨h5,b,h6⟩:=he s _ hs
 have hv:v= .pointer (some ⟨b,0,none⟩):=by rw [←h5];exact h6
 have hj:rs.set j (g b)=rs:=by
  have hjl:j<rs.length:=by rcases Nat.lt_or_ge j rs.length with h|h;exact h;rw [List.getElem?_eq_none h] at hi;cases hi
  rw [←hf b,←hv]
  rw [List.getElem?_eq_getElem hjl] at hi
  simp at hi
  rw [←hi,List.set_getElem_self]
 refine k b k0 hl a w ⟨M,h1,h2,?_,by rw [hj];exact h4⟩
 intro t q hq
 simp only [List.lookup] at hq
 by_cases ht:t=s
 · subst ht;simp at hq;subst hq;exact h6
 · rw [show (t==s)=false by simpa using ht] at hq;exact he t q hq
def KU (r:ResultVar) (a:Act):Sem Value:=match r with| .tmp t=>pure (a.tmps.getD t undef)| .cell c t=>do loadVar t (←asAddr (a.tmps.getD c undef))
def Bc (P:Program) (E:Env) (rs:List Ao) (r:ResultVar) (p:Pr):Prop:=∀(M:Av) (w:World) (a:Act),EG M w E a→(∀q∈rs,q.h M w)→∃v,(KU r a).run P w= .ok v w∧p.h M w v
theorem Bc.tmp {t:Tmp} {q p:Pr} (h:E.lookup t=some q) (hl:Pr.le q p):Bc P E rs (.tmp t) p:=fun _ _ _ he _=>⟨_,rfl,hl _ _ _ (he _ _ h)⟩
theorem Bc.cell (i:Nat) {c:Tmp} {t T:TypeId} {b m:Nat} {new:Bool} {ps:List Pr} {p:Pr} (h:E.lookup c=some (ptr b 0)) (hi:rs[i]? =some (AA new b T ps)) (ht:GH P t=true) (hz:Ax P t=some m) (hm:ps.length=m) (hl:Pr.le (agg ps) p):Bc P E rs (.cell c t) p:=by
 intro M w a he hr
 obtain ⟨v,h1,h2⟩:=Sa ht hz hm (hr _ (List.mem_of_getElem? hi))
 refine ⟨v,?_,hl _ _ _ h2⟩
 have hc:a.tmps.getD c undef= .pointer (some ⟨b,0,none⟩):=he _ _ h
 unfold KU
 simp only [hc,asAddr]
 simpa [Sem.run_bind] using h1
theorem HM (g:Func) (a:Act):results g a.tmps=(do let vs ←g.results.mapM (fun r=>KU r a);pure (if h:vs.size=1 then vs[0] else .tuple vs)):=by
 have:(fun r:ResultVar=>KU r a)=(fun| .tmp t=>pure (a.tmps.getD t undef)| .cell c t=>do loadVar t (←asAddr (a.tmps.getD c undef))):=by
  funext r;cases r<;>rfl
 rw [this];rfl
theorem results1 {g:Func} {r:ResultVar} {a:Act} {w:World} {v:Value} (hr:g.results= #[r]) (h:(KU r a).run P w= .ok v w):(results g a.tmps).run P w= .ok v w:=by
 rw [HM,hr];simp [Sem.run_bind,h]
theorem results2 {g:Func} {r r':ResultVar} {a:Act} {w:World} {v v':Value} (hr:g.results= #[r,r']) (h:(KU r a).run P w= .ok v w) (h':(KU r' a).run P w= .ok v' w):(results g a.tmps).run P w= .ok (.tuple #[v,v']) w:=by
 rw [HM,hr];simp [Sem.run_bind,h,h']
theorem Am.Mf {M:Av} {w:World}:∀{pre:List Ao},Am M0 w0 S (pre++rs) M w→Am M0 w0 S rs M w
 |[],h=>h
 |_::_,h=>Am.Mf h.G9
variable {g:Func} {M1:Av} {w1:World}
theorem Fin.Z_ {r:ResultVar} {p q:Pr} (hr:g.results= #[r]) (h:Bc P E rs r q) (hl:Pr.le q p):Fin ⟨fz,[]⟩ E (Hp M0 w0 J9 rs) (bodyPost P g (NQ M0 w0 p)) .ret:=by
 rintro a w ⟨M,_,hd,he,hi⟩
 obtain ⟨v,hv,hp⟩:=h M w a he (fun q hq=>(hi.hold q hq).1)
 obtain ⟨h1,h2⟩:=Bq.D3 M0 w0 M w hi
 exact ⟨hd,v,results1 hr hv,_,rfl,p.st _ _ _ _ _ (Ext.less h1) (hl _ _ _ hp),h2⟩
theorem Fin.Sm {r r':ResultVar} {p q q':Pr} (hr:g.results= #[r,r']) (h:Bc P E rs r q) (h':Bc P E rs r' q') (hl:Pr.le (FZ [q,q']) p):Fin ⟨fz,[]⟩ E (Hp M0 w0 J9 rs) (bodyPost P g (NQ M0 w0 p)) .ret:=by
 rintro a w ⟨M,_,hd,he,hi⟩
 obtain ⟨v,hv,hp⟩:=h M w a he (fun q hq=>(hi.hold q hq).1)
 obtain ⟨v',aA,Le⟩:=h' M w a he (fun q hq=>(hi.hold q hq).1)
 obtain ⟨h1,h2⟩:=Bq.D3 M0 w0 M w hi
 exact ⟨hd,_,results2 hr hv aA,_,rfl,p.st _ _ _ _ _ (Ext.less h1) (hl _ _ _ ⟨[_,_],rfl,hp,Le,trivial⟩),h2⟩
theorem Fin.EN (pre:List Ao) {r:ResultVar} {R:Ao} {R':Value→Ao} {p q:Pr} (hr:g.results= #[r]) (h:Bc P E (pre++R::Ak M1 w1::rs) r q) (hl:Pr.le q p) (hR:∀M w v,q.h M w v→R' v=R):
  Fin ⟨fz,[]⟩ E (Hp M0 w0 S (pre++R::Ak M1 w1::rs)) (bodyPost P g (JI M0 w0 S rs M1 w1 p R')) .ret:=by
 rintro a w ⟨M,_,hd,he,hi⟩
 obtain ⟨v,hv,hp⟩:=h M w a he (fun q hq=>(hi.hold q hq).1)
 obtain ⟨h1,h2⟩:=RG (Am.Mf hi)
 exact ⟨hd,v,results1 hr hv,_,M,rfl,hl _ _ _ hp,h1,by rw [hR _ _ _ hp];exact h2⟩
theorem Fin.HB (pre:List Ao) {r r':ResultVar} {R:Ao} {p q q':Pr} (hr:g.results= #[r,r']) (h:Bc P E (pre++R::Ak M1 w1::rs) r q) (h':Bc P E (pre++R::Ak M1 w1::rs) r' q') (hl:Pr.le (FZ [q,q']) p):
  Fin ⟨fz,[]⟩ E (Hp M0 w0 S (pre++R::Ak M1 w1::rs)) (bodyPost P g (JI M0 w0 S rs M1 w1 p (fun _=>R))) .ret:=by
 rintro a w ⟨M,_,hd,he,hi⟩
 obtain ⟨v,hv,hp⟩:=h M w a he (fun q hq=>(hi.hold q hq).1)
 obtain ⟨v',aA,Le⟩:=h' M w a he (fun q hq=>(hi.hold q hq).1)
 obtain ⟨h1,h2⟩:=RG (Am.Mf hi)
 exact ⟨hd,_,results2 hr hv aA,_,M,rfl,hl _ _ _ ⟨[_,_],rfl,hp,Le,trivial⟩,h1,h2⟩
theorem Bm {α:Type} {p:α→Pr} {q:Pr} (x:α) (h:Pr.le q (p x)):Pr.le q (Cp.ex p):=fun M w v hv=>⟨x,h M w v hv⟩
theorem A8 {φ:Prop} {p q:Pr} (hφ:φ) (h:Pr.le q p):Pr.le q (fact φ p):=fun M w v hv=>⟨hφ,h M w v hv⟩
end
section
variable {P:Program} {L:Lg P} {n:Fm} {fz:Nat} {E:Env} {M0:Av} {w0:World} {S:Nat→Prop} {rs:List SR} {o:Oper}
theorem Ik {t:TypeId} {x:Operand} {q:Tmp} {j:Nat} {new:Bool} {b off:Nat} {T:TypeId} {ps:List Pr} {p:Pr} [One p] (hg:o.guard=none) (hd:o.dst=none) (ho:o.op= .store t x (.tmp q)) (hx:VL E x (ptr b off)) (hy:E.lookup q=some p)
  (hz:Ax P t=some 1) (hl:off+1≤ps.length):DH P M0 w0 S n j (SR.c (AA new b T ps)) ⟨q,fun v=>AA new b T (ps.take off++[Aq v p]++ps.drop (off+1))⟩ o E any:=by
 refine ⟨hg,fun M w a rs hsz he hI hj=> ?_⟩
 have h1:a.eval x= .pointer (some ⟨b,off,none⟩):=hx.ev he (by simp [ho,Op.operands])
 have hv:VL E (.tmp q) p:=⟨_,hy,Pr.le_refl _⟩
 have hp:=hv.ev he (show (Operand.tmp q)∈o.op.operands.toList by simp [ho,Op.operands])
 obtain ⟨h2,h3⟩:=(VL.le hv (AL p)).ev he (show (Operand.tmp q)∈o.op.operands.toList by simp [ho,Op.operands])
 obtain ⟨⟨_,cs,h4,h5,h6⟩,_⟩:=hI.hold _ (List.mem_of_getElem? hj)
 have Xd:=h5.length
 have ZM:=h2.length
 have hone:(a.eval (.tmp q)).cells= #[a.eval (.tmp q)]:=(One.one (p:=p) M w _ hp).1
 have h2':HL M w [Aq (a.eval (.tmp q)) p] (a.eval (.tmp q)).cells.toList:=by rw [hone];exact ⟨⟨rfl,hp⟩,trivial⟩
 have hcells:(a.eval (.tmp q)).cells.size=1:=by rw [hone];rfl
 have hrun:(storeCells ⟨b,off,none⟩ (a.eval (.tmp q)).cells.toList 0).run P w= .ok () (w.setRow b (cs.take off++(a.eval (.tmp q)).cells.toList++cs.drop (off+1)).toArray):=by
  have:=run_storeCells_at (P:=P) b off T (a.eval (.tmp q)).cells.toList 0 cs.toArray w h4 (by simp [hcells];omega) h3
  simpa [hcells] using this
 have CZ:(execOp a.eval o).run P w= .ok .skip (w.setRow b (cs.take off++(a.eval (.tmp q)).cells.toList++cs.drop (off+1)).toArray):=by
  simp [execOp,ho,h1,Instr.storeAt,Instr.sureAddr,storeVar,BZ hz,hcells,hrun]
 rw [CZ]
 obtain ⟨h7, h8⟩ := Am.write (qs := ps.take off ++ [Aq (a.eval (.tmp q)) p] ++ ps.drop (off + 1)) (cs := cs.take off ++ (a.eval (.tmp q)).cells.toList ++ cs.drop (off + 1)) hI hj ((((h5.take off).app h2')).app (h5.drop (off + 1)))
  (fun c hc=>by
   simp only [List.mem_append] at hc
   rcases hc with (hc|hc)|hc
   · exact h6 c (List.mem_of_mem_take hc)
   · exact h3 c hc
   · exact h6 c (List.mem_of_mem_drop hc))
 refine ⟨M,trivial,h8,?_⟩
 have hput:SR.at_ (a.put o.dst undef) ⟨q,fun v=>AA new b T (ps.take off++[Aq v p]++ps.drop (off+1))⟩=AA new b T (ps.take off++[Aq (a.eval (.tmp q)) p]++ps.drop (off+1)):=by rw [hd];rfl
 rw [hput];exact h7
theorem Mg {j s:Nat} {f:Value→Ao} (hR:rs[j]? =some ⟨s,f⟩) (a:Act):(rs.set j (SR.c (f (a.tmps.getD s undef)))).map (·.at_ a)=rs.map (·.at_ a):=by
 rw [List.map_set]
 apply List.ext_getElem?
 intro i
 rw [List.getElem?_set]
 by_cases hij:j=i
 ·
  subst hij
  rw [if_pos rfl]
  split
  · rw [List.getElem?_map,hR];rfl
  ·
   rename_i hge
   rw [List.getElem?_eq_none (by omega)]
 · rw [if_neg hij]
theorem BJ.W7 {Q:Exit→Act→World→Prop} (j i s:Nat) {f g:Value→Ao} {p:Pr} (hR:rs[j]? =some ⟨s,f⟩) (lE:rs[i]? =some ⟨s,g⟩) (hij:j≠i) (hs:E.lookup s=some p) (k:∀v,BJ n M0 w0 S ((s,Aq v p)::E) ((rs.set j (SR.c (f v))).set i (SR.c (g v))) Q):BJ n M0 w0 S E rs Q:=by
 rintro a w ⟨M,h1,h2,h3,h4⟩
 refine k (a.tmps.getD s undef) a w ⟨M,h1,h2,?_,?_⟩
 ·
  intro t q hq
  simp only [List.lookup] at hq
  by_cases ht:t=s
  · subst ht;simp only [beq_self_eq_true,Option.some.injEq] at hq;subst hq;exact ⟨rfl,h3 t p hs⟩
  · rw [show (t==s)=false by simpa using ht] at hq;exact h3 t q hq
 · rw [Mg (rs:=rs.set j (SR.c (f (a.tmps.getD s undef)))) (j:=i) (s:=s) (f:=g) (by rw [List.getElem?_set,if_neg hij];exact lE) a,Mg hR a];exact h4
end
section
variable {P:Program} {L:Lg P} {n:Fm} {fz:Nat} {E:Env} {M0:Av} {w0:World} {S:Nat→Prop} {rs:List Ao}
theorem St.Jn (j:Nat) {new:Bool} {b:Nat} {T:TypeId} {ps qs:List Pr} (hi:rs[j]? =some (AA new b T ps)) (h:LY ps qs) {a:Act} {w:World} (hs:St n E (Hp M0 w0 S rs) a w):St n E (Hp M0 w0 S (rs.set j (AA new b T qs))) a w:=by
 obtain ⟨M,h1,h2,h3,h4⟩:=hs
 have h4:Am M0 w0 S rs M w:=h4
 obtain ⟨h5,cs,h6,h7,h8⟩:=(h4.hold _ (List.mem_of_getElem? hi)).1
 exact ⟨M,h1,h2,h3,h4.Bt hi rfl rfl ⟨h5,cs,h6,h.hl h7,h8⟩⟩
theorem Tr.Jn {Q:Exit→Act→World→Prop} {c:Code} (j:Nat) {new:Bool} {b:Nat} {T:TypeId} {ps:List Pr} (qs:List Pr) (hi:rs[j]? =some (AA new b T ps)) (h:LY ps qs) (k:Tr L n E (Hp M0 w0 S (rs.set j (AA new b T qs))) c Q):Tr L n E (Hp M0 w0 S rs) c Q:=
 Tr.conv (fun _ _ hs=>hs.Jn j hi h) k
theorem Fin.Jn {Q:Exit→Act→World→Prop} {e:Exit} (j:Nat) {new:Bool} {b:Nat} {T:TypeId} {ps:List Pr} (qs:List Pr) (hi:rs[j]? =some (AA new b T ps)) (h:LY ps qs) (k:Fin n E (Hp M0 w0 S (rs.set j (AA new b T qs))) Q e):Fin n E (Hp M0 w0 S rs) Q e:=
 Fin.conv (fun _ _ hs=>hs.Jn j hi h) k
end
section
variable {P:Program} {L:Lg P} {n:Fm} {fz:Nat} {E:Env} {M0:Av} {w0:World} {S:Nat→Prop} {rs:List Ao}
abbrev jV (m b:Nat):Value:= .slice (some ⟨b,0,none⟩) m m
theorem TO.VD {ops:Array Oper} {o:Oper} {r:List Oper} {Q:Exit→Act→World→Prop} {d m dy:Nat} {t e:TypeId} {x y:Operand} {z:Value} (hg:o.guard=none) (hd:o.dst=some d) (hn:d<n) (ho:o.op= .makeSlice t x y) (ht:P.underlying t=some (.slice e))
  (hs:Ax P e=some 1) (hby:Bx P e=some dy) (hz:Bb P e=some [z]) (h1:z.oneCell'=true) (hx:VL E x (int ((m:Nat):Int))) (hy:VL E y (int ((m:Nat):Int))) (hm:m≤maxLen) (hb:dy*m≤281474976710656)
  (k:∀b,TO P n ops r ((d,is (jV m b))::E) (Hp M0 w0 S (AA true b e ((List.replicate m z).map is)::rs)) Q):TO P n ops (o::r) E (Hp M0 w0 S rs) Q:=
 TO.MV hg fun K M w a hsz hdf he hI hK=>by
  have hx1:a.eval x= .int .i64 m:=hx.ev (o:=o) (BX he) (by simp [ho,Op.operands])
  have hy1:a.eval y= .int .i64 m:=hy.ev (o:=o) (BX he) (by simp [ho,Op.operands])
  have hi:∃i,P.info? e=some i∧i.size=1∧i.bytes=dy∧∃z',i.zero=some z'∧z'.cells= #[z]:=by
   unfold Ax at hs;unfold Bx at hby;unfold Bb at hz
   cases hi:P.info? e with
   |none=>rw [hi] at hs;cases hs
   |some i=>
    rw [hi] at hs hby hz
    simp at hs hby hz
    obtain ⟨z',h2,h3⟩:=hz
    exact ⟨i,rfl,hs,hby,z',h2,by rw [←Array.toList_inj,h3]⟩
  obtain ⟨i,hi,hi1,hi2,z',LW,QH⟩:=hi
  have hmk:madeCells z'.cells m=(List.replicate m z).toArray:=by
   rw [QH]
   apply Array.ext
   · simp [madeCells]
   ·
    intro j h1 h2
    simp [madeCells,Nat.mod_one]
  have hrun:=run_make (P:=P) w t e i z' ht hi LW .i64 .i64 (m:Int) (m:Int) (by omega) (Int.le_refl _) (by rw [hi2];have h0:((dy*m:Nat):Int)≤281474976710656:=Int.ofNat_le.2 hb;rw [←Int.natCast_mul];exact h0) (by unfold maxLen at hm;omega)
  rw [hi1] at hrun
  simp only [Int.toNat_natCast,Nat.mul_one] at hrun
  rw [hmk] at hrun
  refine TO.val (v:=jV m w.heap.size) (w':=w.alloc (.cells (List.replicate m z).toArray e)) ?_ ?_
  · simp [execOp,ho,hx1,hy1,hrun]
  ·
   obtain ⟨h2,h3⟩:=Am.add (T:=e) hI (JD M w (List.replicate m z)) (fun c hc=>by rw [List.eq_of_mem_replicate hc];exact h1)
   refine hK _ _ _ _ (k w.heap.size) ⟨_,by rw [BN];exact hsz,by rw [put_defers];exact hdf,?_,h2⟩
   intro s p hp
   simp only [List.lookup] at hp
   by_cases hs:s=d
   · subst hs;simp at hp;subst hp;rw [hd,A_ (by rw [hsz];exact hn)];rfl
   ·
    rw [show (s==d)=false by simpa using hs] at hp
    rw [hd,BD hs]
    exact p.st _ _ _ _ _ h3 (he s p hp)
theorem AD {I:B5} {o:Oper} {t e:TypeId} {x y:Operand} {k:IntKind} {i:Int} {len cap sz b off:Nat} (ho:o.op= .indexAddr t x y) (ht:P.underlying t=some (.slice e)) (hz:Ax P e=some sz) (hx:VL E x (is (.slice (some ⟨b,off,none⟩) len cap))) (hy:VL E y (is (.int k i)))
  (h0:0≤i) (hl:i<len):AS P I o E (ptr b (off+i.toNat*sz)):=
 AS.same fun M w a he _=>by
  have h1:a.eval x=_:=hx.ev he (by simp [ho,Op.operands])
  have h5:a.eval y= .int k i:=hy.ev he (by simp [ho,Op.operands])
  refine ⟨_,?_,rfl⟩
  simp [execOp,ho,h1,h5,Instr.indexAt,asIntOf,run_underlying ht,BZ hz,h0,hl,CH]
theorem Tr.perm {Q:Exit→Act→World→Prop} {c:Code} {rs':List Ao} (hp:rs.Perm rs') (k:Tr L n E (Hp M0 w0 S rs') c Q):Tr L n E (Hp M0 w0 S rs) c Q:=
 Tr.conv (fun _ _ ⟨M,h1,h2,h3,h4⟩=>⟨M,h1,h2,h3,Am.perm hp h4⟩) k
theorem Fin.perm {Q:Exit→Act→World→Prop} {ex:Exit} {rs':List Ao} (hp:rs.Perm rs') (k:Fin n E (Hp M0 w0 S rs') Q ex):Fin n E (Hp M0 w0 S rs) Q ex:=
 Fin.conv (fun _ _ ⟨M,h1,h2,h3,h4⟩=>⟨M,h1,h2,h3,Am.perm hp h4⟩) k
theorem Am.QW {b:Nat} {T:TypeId} {ps:List Pr} {M:Av} {w:World} (h4:Am M0 w0 S (AA true b T ps::rs) M w):∃M',Am M0 w0 S rs M' w∧Ext M w M' w∧Row M' w ⟨b,0,none⟩ 0 ps:=by
 obtain ⟨⟨hm,cs,hh,hc,hone⟩,SB⟩:=h4.hold _ (List.mem_cons_self ..)
 obtain ⟨hlt,hnew⟩:=SB b rfl
 have hnew:w0.heap.size≤b:=by simpa [AA] using hnew
 have he:Ext M w (fun b' o=>M b' o∧b'≠b) w:=Ext.less fun _ _ h=>h.1
 obtain ⟨fR,fS⟩:=List.pairwise_cons.1 h4.nd
 refine ⟨fun b' o=>M b' o∧b'≠b,⟨h4.m0,fun b' o' hm'=>⟨h4.m b' o' hm',fun e=> ?_⟩,h4.os,h4.tape,h4.output,h4.size,h4.block,fun b' o' hm'=>h4.bd b' o' hm'.1,fun r hr=> ?_,fS⟩,he,fun j p hp=> ?_⟩
 ·
  subst e
  have:=h4.m0 _ _ hm'
  omega
 ·
  obtain ⟨h5,h6⟩:=h4.hold r (List.mem_cons_of_mem _ hr)
  exact ⟨r.st _ _ _ _ he (fun b' hb'=>⟨rfl,fun o' hmo=>⟨hmo,fun e=>fR r hr b rfl (by rw [←e];exact hb')⟩⟩) h5,h6⟩
 ·
  obtain ⟨u,hu,Zo⟩:=hc.at_ j p hp
  refine ⟨u,?_,fun hx=>hx.2 rfl,hone u (List.mem_of_getElem? hu),p.st _ _ _ _ _ he Zo⟩
  rw [show Addr.add ⟨b,0,none⟩ (0+j)=⟨b,j,none⟩ by unfold Addr.add;split<;>simp_all]
  simp [World.cell?,hh,hu]
end
end Cp
namespace Go.Proofs.YtgilhkjlfongoaaGreat
open Go Cp
theorem mixed:Tryz.prog.follows .mixedOrders=true:=by kernel_rfl
theorem z1:Bb Tryz.prog 1=some [.nilFunc]:=by kernel_rfl
theorem z2:Bb Tryz.prog 2=some [.int .i64 0]:=by kernel_rfl
theorem B7:Ax Tryz.prog 3=some 1:=by kernel_rfl
theorem Cr:FE Tryz.prog 3=true:=by kernel_rfl
theorem Mh:Bx Tryz.prog 3=some 8:=by kernel_rfl
theorem jW:([.int .i64 0]:List Value).all (·.oneCell')=true:=by kernel_rfl
theorem z3:Bb Tryz.prog 3=some [.int .i64 0]:=by kernel_rfl
theorem z4:Bb Tryz.prog 4=some [.bool false]:=by kernel_rfl
theorem lF:Ax Tryz.prog 5=some 1:=by kernel_rfl
theorem fT:FE Tryz.prog 5=true:=by kernel_rfl
theorem Da:Ax Tryz.prog 9=some 1:=by kernel_rfl
theorem Nc:FE Tryz.prog 9=true:=by kernel_rfl
theorem Oy:Bx Tryz.prog 9=some 16:=by kernel_rfl
theorem lG:([.string (ByteArray.mk #[])]:List Value).all (·.oneCell')=true:=by kernel_rfl
theorem z9:Bb Tryz.prog 9=some [.string (ByteArray.mk #[])]:=by kernel_rfl
theorem VE:Ax Tryz.prog 22=some 1:=by kernel_rfl
theorem Nd:FE Tryz.prog 22=true:=by kernel_rfl
theorem Xr:Ax Tryz.prog 24=some 2:=by kernel_rfl
theorem aB:GH Tryz.prog 24=true:=by kernel_rfl
theorem fU:∀ps,Tryz.prog.built 24 ps=Instr.fill (fun i=>(#[(0,1),(1,1)]:Array (Nat×Nat))[i]?) ((List.replicate 2 (.int .i64 0)):List Value).toArray ps:=by intro ps;kernel_rfl
theorem aC:((List.replicate 2 (.int .i64 0)):List Value).all (·.oneCell')=true:=by kernel_rfl
theorem z24:Bb Tryz.prog 24=some (List.replicate 2 (.int .i64 0)):=by kernel_rfl
theorem Xs:A1 Tryz.prog 24 0=some 0:=by kernel_rfl
theorem Xt:A1 Tryz.prog 24 1=some 1:=by kernel_rfl
theorem AY:Ax Tryz.prog 26=some 11:=by kernel_rfl
theorem BI:GH Tryz.prog 26=true:=by kernel_rfl
theorem Dz:Bx Tryz.prog 26=some 112:=by kernel_rfl
theorem aD:∀ps,Tryz.prog.built 26 ps=Instr.fill (fun i=>(#[(0,1),(1,1),(2,1),(3,1),(4,1),(5,1),(6,1),(7,2),(9,1),(10,1)]:Array (Nat×Nat))[i]?) ([.int .i64 0,.string (ByteArray.mk #[]),.int .i64 0,.int .i64 0,.int .i64 0,.int .i64 0,.string (ByteArray.mk #[]),.int .i64 0,.int .i64 0,.int .i64 0,.string (ByteArray.mk #[])]:List Value).toArray ps:=by intro ps;kernel_rfl
theorem Hq:([.int .i64 0,.string (ByteArray.mk #[]),.int .i64 0,.int .i64 0,.int .i64 0,.int .i64 0,.string (ByteArray.mk #[]),.int .i64 0,.int .i64 0,.int .i64 0,.string (ByteArray.mk #[])]:List Value).all (·.oneCell')=true:=by kernel_rfl
theorem Di:Bb Tryz.prog 26=some [.int .i64 0,.string (ByteArray.mk #[]),.int .i64 0,.int .i64 0,.int .i64 0,.int .i64 0,.string (ByteArray.mk #[]),.int .i64 0,.int .i64 0,.int .i64 0,.string (ByteArray.mk #[])]:=by kernel_rfl
theorem Xu:A1 Tryz.prog 26 0=some 0:=by kernel_rfl
theorem Sn:A1 Tryz.prog 26 1=some 1:=by kernel_rfl
theorem Mi:A1 Tryz.prog 26 2=some 2:=by kernel_rfl
theorem So:A1 Tryz.prog 26 3=some 3:=by kernel_rfl
theorem Sq:A1 Tryz.prog 26 4=some 4:=by kernel_rfl
theorem Xv:A1 Tryz.prog 26 5=some 5:=by kernel_rfl
theorem Xw:A1 Tryz.prog 26 6=some 6:=by kernel_rfl
theorem Xx:A1 Tryz.prog 26 7=some 7:=by kernel_rfl
theorem Xy:A1 Tryz.prog 26 8=some 9:=by kernel_rfl
theorem Xz:A1 Tryz.prog 26 9=some 10:=by kernel_rfl
theorem aE:FE Tryz.prog 31=true:=by kernel_rfl
theorem X0:Ax Tryz.prog 53=some 1:=by kernel_rfl
theorem QX:FE Tryz.prog 53=true:=by kernel_rfl
theorem EO:Ax Tryz.prog 55=some 4:=by kernel_rfl
theorem Sr:GH Tryz.prog 55=true:=by kernel_rfl
theorem aF:Bx Tryz.prog 55=some 80:=by kernel_rfl
theorem aG:∀ps,Tryz.prog.built 55 ps=Instr.fill (fun i=>(#[(0,1),(1,1),(2,1),(3,1)]:Array (Nat×Nat))[i]?) ([.int .i64 0,.slice none 0 0,.slice none 0 0,.slice none 0 0]:List Value).toArray ps:=by intro ps;kernel_rfl
theorem RJ:([.int .i64 0,.slice none 0 0,.slice none 0 0,.slice none 0 0]:List Value).all (·.oneCell')=true:=by kernel_rfl
theorem X2:Bb Tryz.prog 55=some [.int .i64 0,.slice none 0 0,.slice none 0 0,.slice none 0 0]:=by kernel_rfl
theorem X3:A1 Tryz.prog 55 0=some 0:=by kernel_rfl
theorem Oz:A1 Tryz.prog 55 1=some 1:=by kernel_rfl
theorem O0:A1 Tryz.prog 55 2=some 2:=by kernel_rfl
theorem O1:A1 Tryz.prog 55 3=some 3:=by kernel_rfl
theorem AQ:Ax Tryz.prog 57=some 3:=by kernel_rfl
theorem BG:GH Tryz.prog 57=true:=by kernel_rfl
theorem KV:Bx Tryz.prog 57=some 40:=by kernel_rfl
theorem fV:∀ps,Tryz.prog.built 57 ps=Instr.fill (fun i=>(#[(0,1),(1,1),(2,1)]:Array (Nat×Nat))[i]?) ([.int .i64 0,.int .i64 0,.slice none 0 0]:List Value).toArray ps:=by intro ps;kernel_rfl
theorem aH:([.int .i64 0,.int .i64 0,.slice none 0 0]:List Value).all (·.oneCell')=true:=by kernel_rfl
theorem NN:Bb Tryz.prog 57=some [.int .i64 0,.int .i64 0,.slice none 0 0]:=by kernel_rfl
theorem Mj:A1 Tryz.prog 57 0=some 0:=by kernel_rfl
theorem O2:A1 Tryz.prog 57 1=some 1:=by kernel_rfl
theorem O3:A1 Tryz.prog 57 2=some 2:=by kernel_rfl
theorem fW:∀ps,Tryz.prog.built 80 ps=Instr.fill (fun i=>(#[(0,1),(1,1)]:Array (Nat×Nat))[i]?) ([.slice none 0 0,.int .i64 0]:List Value).toArray ps:=by intro ps;kernel_rfl
theorem fX:([.slice none 0 0,.int .i64 0]:List Value).all (·.oneCell')=true:=by kernel_rfl
theorem X4:A1 Tryz.prog 80 0=some 0:=by kernel_rfl
theorem X5:A1 Tryz.prog 80 1=some 1:=by kernel_rfl
theorem fY:Ax Tryz.prog 92=some 2:=by kernel_rfl
theorem aI:GH Tryz.prog 92=true:=by kernel_rfl
theorem fZ:∀ps,Tryz.prog.built 92 ps=Instr.fill (fun i=>(#[(0,1),(1,1)]:Array (Nat×Nat))[i]?) ((List.replicate 2 (.int .i64 0)):List Value).toArray ps:=by intro ps;kernel_rfl
theorem X6:((List.replicate 2 (.int .i64 0)):List Value).all (·.oneCell')=true:=by kernel_rfl
theorem jX:Bb Tryz.prog 92=some (List.replicate 2 (.int .i64 0)):=by kernel_rfl
theorem X7:A1 Tryz.prog 92 0=some 0:=by kernel_rfl
theorem X8:A1 Tryz.prog 92 1=some 1:=by kernel_rfl
theorem aJ:FE Tryz.prog 96=true:=by kernel_rfl
theorem aK:∀ps,Tryz.prog.built 126 ps=Instr.fill (fun i=>some (i*1,1)) ((List.replicate 400 (.int .i64 0)):List Value).toArray ps:=by intro ps;kernel_rfl
theorem aL:((List.replicate 400 (.int .i64 0)):List Value).all (·.oneCell')=true:=by kernel_rfl
theorem X9:FE Tryz.prog 143=true:=by kernel_rfl
theorem W8:Ax Tryz.prog 144=some 1:=by kernel_rfl
theorem X_:FE Tryz.prog 144=true:=by kernel_rfl
theorem fc:Bb Tryz.prog 144=some [.nilFunc]:=by kernel_rfl
theorem YA:FE Tryz.prog 146=true:=by kernel_rfl
theorem aM:Ax Tryz.prog 189=some 1:=by kernel_rfl
theorem YB:FE Tryz.prog 189=true:=by kernel_rfl
theorem aN:([.int .u64 0]:List Value).all (·.oneCell')=true:=by kernel_rfl
theorem fk:Bb Tryz.prog 189=some [.int .u64 0]:=by kernel_rfl
theorem Ln:Ax Tryz.prog 196=some 5:=by kernel_rfl
theorem Mk:GH Tryz.prog 196=true:=by kernel_rfl
theorem Cj:∀ps,Tryz.prog.built 196 ps=Instr.fill (fun i=>(#[(0,1),(1,1),(2,1),(3,1),(4,1)]:Array (Nat×Nat))[i]?) ([.string (ByteArray.mk #[]),.int .i64 0,.int .i64 0,.slice none 0 0,.slice none 0 0]:List Value).toArray ps:=by intro ps;kernel_rfl
theorem CJ:([.string (ByteArray.mk #[]),.int .i64 0,.int .i64 0,.slice none 0 0,.slice none 0 0]:List Value).all (·.oneCell')=true:=by kernel_rfl
theorem z196:Bb Tryz.prog 196=some [.string (ByteArray.mk #[]),.int .i64 0,.int .i64 0,.slice none 0 0,.slice none 0 0]:=by kernel_rfl
theorem VF:A1 Tryz.prog 196 1=some 1:=by kernel_rfl
theorem VG:A1 Tryz.prog 196 2=some 2:=by kernel_rfl
theorem VH:A1 Tryz.prog 196 3=some 3:=by kernel_rfl
theorem VI:A1 Tryz.prog 196 4=some 4:=by kernel_rfl
theorem W9:Ax Tryz.prog 201=some 2:=by kernel_rfl
theorem aO:∀ps,Tryz.prog.built 201 ps=Instr.fill (fun i=>(#[(0,1),(1,1)]:Array (Nat×Nat))[i]?) ([.string (ByteArray.mk #[]),.int .i64 0]:List Value).toArray ps:=by intro ps;kernel_rfl
theorem W_:([.string (ByteArray.mk #[]),.int .i64 0]:List Value).all (·.oneCell')=true:=by kernel_rfl
theorem z201:Bb Tryz.prog 201=some [.string (ByteArray.mk #[]),.int .i64 0]:=by kernel_rfl
theorem VJ:A1 Tryz.prog 201 1=some 1:=by kernel_rfl
theorem XA:Ax Tryz.prog 217=some 115:=by kernel_rfl
theorem YC:GH Tryz.prog 217=true:=by kernel_rfl
theorem aP:∀ps,Tryz.prog.built 217 ps=Instr.fill (fun i=>some (i*5,5)) ([.string (ByteArray.mk #[]),.int .i64 0,.int .i64 0,.slice none 0 0,.slice none 0 0,.string (ByteArray.mk #[]),.int .i64 0,.int .i64 0,.slice none 0 0,.slice none 0 0,.string (ByteArray.mk #[]),.int .i64 0,.int .i64 0,.slice none 0 0,.slice none 0 0,.string (ByteArray.mk #[]),.int .i64 0,.int .i64 0,.slice none 0 0,.slice none 0 0,.string (ByteArray.mk #[]),.int .i64 0,.int .i64 0,.slice none 0 0,.slice none 0 0,.string (ByteArray.mk #[]),.int .i64 0,.int .i64 0,.slice none 0 0,.slice none 0 0,.string (ByteArray.mk #[]),.int .i64 0,.int .i64 0,.slice none 0 0,.slice none 0 0,.string (ByteArray.mk #[]),.int .i64 0,.int .i64 0,.slice none 0 0,.slice none 0 0,.string (ByteArray.mk #[]),.int .i64 0,.int .i64 0,.slice none 0 0,.slice none 0 0,.string (ByteArray.mk #[]),.int .i64 0,.int .i64 0,.slice none 0 0,.slice none 0 0,.string (ByteArray.mk #[]),.int .i64 0,.int .i64 0,.slice none 0 0,.slice none 0 0,.string (ByteArray.mk #[]),.int .i64 0,.int .i64 0,.slice none 0 0,.slice none 0 0,.string (ByteArray.mk #[]),.int .i64 0,.int .i64 0,.slice none 0 0,.slice none 0 0,.string (ByteArray.mk #[]),.int .i64 0,.int .i64 0,.slice none 0 0,.slice none 0 0,.string (ByteArray.mk #[]),.int .i64 0,.int .i64 0,.slice none 0 0,.slice none 0 0,.string (ByteArray.mk #[]),.int .i64 0,.int .i64 0,.slice none 0 0,.slice none 0 0,.string (ByteArray.mk #[]),.int .i64 0,.int .i64 0,.slice none 0 0,.slice none 0 0,.string (ByteArray.mk #[]),.int .i64 0,.int .i64 0,.slice none 0 0,.slice none 0 0,.string (ByteArray.mk #[]),.int .i64 0,.int .i64 0,.slice none 0 0,.slice none 0 0,.string (ByteArray.mk #[]),.int .i64 0,.int .i64 0,.slice none 0 0,.slice none 0 0,.string (ByteArray.mk #[]),.int .i64 0,.int .i64 0,.slice none 0 0,.slice none 0 0,.string (ByteArray.mk #[]),.int .i64 0,.int .i64 0,.slice none 0 0,.slice none 0 0,.string (ByteArray.mk #[]),.int .i64 0,.int .i64 0,.slice none 0 0,.slice none 0 0]:List Value).toArray ps:=by intro ps;kernel_rfl
theorem XB:([.string (ByteArray.mk #[]),.int .i64 0,.int .i64 0,.slice none 0 0,.slice none 0 0,.string (ByteArray.mk #[]),.int .i64 0,.int .i64 0,.slice none 0 0,.slice none 0 0,.string (ByteArray.mk #[]),.int .i64 0,.int .i64 0,.slice none 0 0,.slice none 0 0,.string (ByteArray.mk #[]),.int .i64 0,.int .i64 0,.slice none 0 0,.slice none 0 0,.string (ByteArray.mk #[]),.int .i64 0,.int .i64 0,.slice none 0 0,.slice none 0 0,.string (ByteArray.mk #[]),.int .i64 0,.int .i64 0,.slice none 0 0,.slice none 0 0,.string (ByteArray.mk #[]),.int .i64 0,.int .i64 0,.slice none 0 0,.slice none 0 0,.string (ByteArray.mk #[]),.int .i64 0,.int .i64 0,.slice none 0 0,.slice none 0 0,.string (ByteArray.mk #[]),.int .i64 0,.int .i64 0,.slice none 0 0,.slice none 0 0,.string (ByteArray.mk #[]),.int .i64 0,.int .i64 0,.slice none 0 0,.slice none 0 0,.string (ByteArray.mk #[]),.int .i64 0,.int .i64 0,.slice none 0 0,.slice none 0 0,.string (ByteArray.mk #[]),.int .i64 0,.int .i64 0,.slice none 0 0,.slice none 0 0,.string (ByteArray.mk #[]),.int .i64 0,.int .i64 0,.slice none 0 0,.slice none 0 0,.string (ByteArray.mk #[]),.int .i64 0,.int .i64 0,.slice none 0 0,.slice none 0 0,.string (ByteArray.mk #[]),.int .i64 0,.int .i64 0,.slice none 0 0,.slice none 0 0,.string (ByteArray.mk #[]),.int .i64 0,.int .i64 0,.slice none 0 0,.slice none 0 0,.string (ByteArray.mk #[]),.int .i64 0,.int .i64 0,.slice none 0 0,.slice none 0 0,.string (ByteArray.mk #[]),.int .i64 0,.int .i64 0,.slice none 0 0,.slice none 0 0,.string (ByteArray.mk #[]),.int .i64 0,.int .i64 0,.slice none 0 0,.slice none 0 0,.string (ByteArray.mk #[]),.int .i64 0,.int .i64 0,.slice none 0 0,.slice none 0 0,.string (ByteArray.mk #[]),.int .i64 0,.int .i64 0,.slice none 0 0,.slice none 0 0,.string (ByteArray.mk #[]),.int .i64 0,.int .i64 0,.slice none 0 0,.slice none 0 0,.string (ByteArray.mk #[]),.int .i64 0,.int .i64 0,.slice none 0 0,.slice none 0 0]:List Value).all (·.oneCell')=true:=by kernel_rfl
theorem fm:Bb Tryz.prog 217=some [.string (ByteArray.mk #[]),.int .i64 0,.int .i64 0,.slice none 0 0,.slice none 0 0,.string (ByteArray.mk #[]),.int .i64 0,.int .i64 0,.slice none 0 0,.slice none 0 0,.string (ByteArray.mk #[]),.int .i64 0,.int .i64 0,.slice none 0 0,.slice none 0 0,.string (ByteArray.mk #[]),.int .i64 0,.int .i64 0,.slice none 0 0,.slice none 0 0,.string (ByteArray.mk #[]),.int .i64 0,.int .i64 0,.slice none 0 0,.slice none 0 0,.string (ByteArray.mk #[]),.int .i64 0,.int .i64 0,.slice none 0 0,.slice none 0 0,.string (ByteArray.mk #[]),.int .i64 0,.int .i64 0,.slice none 0 0,.slice none 0 0,.string (ByteArray.mk #[]),.int .i64 0,.int .i64 0,.slice none 0 0,.slice none 0 0,.string (ByteArray.mk #[]),.int .i64 0,.int .i64 0,.slice none 0 0,.slice none 0 0,.string (ByteArray.mk #[]),.int .i64 0,.int .i64 0,.slice none 0 0,.slice none 0 0,.string (ByteArray.mk #[]),.int .i64 0,.int .i64 0,.slice none 0 0,.slice none 0 0,.string (ByteArray.mk #[]),.int .i64 0,.int .i64 0,.slice none 0 0,.slice none 0 0,.string (ByteArray.mk #[]),.int .i64 0,.int .i64 0,.slice none 0 0,.slice none 0 0,.string (ByteArray.mk #[]),.int .i64 0,.int .i64 0,.slice none 0 0,.slice none 0 0,.string (ByteArray.mk #[]),.int .i64 0,.int .i64 0,.slice none 0 0,.slice none 0 0,.string (ByteArray.mk #[]),.int .i64 0,.int .i64 0,.slice none 0 0,.slice none 0 0,.string (ByteArray.mk #[]),.int .i64 0,.int .i64 0,.slice none 0 0,.slice none 0 0,.string (ByteArray.mk #[]),.int .i64 0,.int .i64 0,.slice none 0 0,.slice none 0 0,.string (ByteArray.mk #[]),.int .i64 0,.int .i64 0,.slice none 0 0,.slice none 0 0,.string (ByteArray.mk #[]),.int .i64 0,.int .i64 0,.slice none 0 0,.slice none 0 0,.string (ByteArray.mk #[]),.int .i64 0,.int .i64 0,.slice none 0 0,.slice none 0 0,.string (ByteArray.mk #[]),.int .i64 0,.int .i64 0,.slice none 0 0,.slice none 0 0,.string (ByteArray.mk #[]),.int .i64 0,.int .i64 0,.slice none 0 0,.slice none 0 0]:=by kernel_rfl
theorem XC:Ax Tryz.prog 223=some 2:=by kernel_rfl
theorem YD:GH Tryz.prog 223=true:=by kernel_rfl
theorem aQ:∀ps,Tryz.prog.built 223 ps=Instr.fill (fun i=>some (i*1,1)) ((List.replicate 2 (.int .i64 0)):List Value).toArray ps:=by intro ps;kernel_rfl
theorem XD:((List.replicate 2 (.int .i64 0)):List Value).all (·.oneCell')=true:=by kernel_rfl
theorem fq:Bb Tryz.prog 223=some (List.replicate 2 (.int .i64 0)):=by kernel_rfl
theorem aR:∀ps,Tryz.prog.built 224 ps=Instr.fill (fun i=>some (i*2,2)) ((List.replicate 10 (.int .i64 0)):List Value).toArray ps:=by intro ps;kernel_rfl
theorem aS:((List.replicate 10 (.int .i64 0)):List Value).all (·.oneCell')=true:=by kernel_rfl
end Go.Proofs.YtgilhkjlfongoaaGreat
namespace Cp
open Go Go.RowKit Go.Great
section
variable {P:Program} {L:Lg P} {n:Fm} {fz:Nat} {E:Env} {M0:Av} {w0:World} {S:Nat→Prop} {rs:List Ao} {o:Oper}
def lens (m:Nat):Pr where
 h _ _ v:=∃a c,v= .slice a m c
 st _M _w _M' _w' _v _ h:=h
instance aT (m:Nat):One (lens m):=⟨by rintro M w v ⟨a,c,rfl⟩;exact ⟨rfl,rfl⟩⟩
def E6 (e:TypeId) (sz:Nat) (rows:List (List Pr)) (v:Value):Ao where
 Ee:=match v with| .slice (some a) _ _=>some a.block|_=>none
 new:=true
 h M w:=∃(b cap:Nat) (spare:List Value),v= .slice (some ⟨b,0,none⟩) rows.length cap∧rows.length≤cap∧cap≤maxLen∧spare.length=(cap-rows.length)*sz∧(AA true b e (rows.flatten++spare.map is)).h M w
 st M w M' w' he hk h:=by
  obtain ⟨b,cap,spare,rfl,h1,h2,h3,h4⟩:=h
  exact ⟨b,cap,spare,rfl,h1,h2,h3,(AA true b e _).st _ _ _ _ he hk h4⟩
theorem Ff {sz:Nat}:∀{rows:List (List Pr)} {i j:Nat} {row:List Pr},(∀r∈rows,r.length=sz)→rows[i]? =some row→j<sz→rows.flatten[i*sz+j]? =row[j]?
 |[],_,_,_,_,h,_=>by simp at h
 |a::l,0,j,row,hl,h,hj=>by
  simp at h;subst h
  have:=hl a (by simp)
  rw [List.flatten_cons,Nat.zero_mul,Nat.zero_add,List.getElem?_append_left (by omega)]
 |a::l,i+1,j,row,hl,h,hj=>by
  have h1:=hl a (by simp)
  rw [List.flatten_cons,Nat.succ_mul,List.getElem?_append_right (by omega),h1,show i*sz+sz+j-sz=i*sz+j by omega]
  exact Ff (fun r hr=>hl r (List.mem_cons_of_mem _ hr)) (by simpa using h) hj
theorem Bu {sz:Nat}:∀{rows:List (List Pr)},(∀r∈rows,r.length=sz)→rows.flatten.length=rows.length*sz
 |[],_=>by simp
 |a::l,h=>by
  rw [List.flatten_cons,List.length_append,Bu (fun r hr=>h r (List.mem_cons_of_mem _ hr)),h a (by simp),List.length_cons,Nat.succ_mul];omega
theorem Ss {M:Av} {w:World}:∀{ps:List Pr} {vs:List Value},vs.length=ps.length→(∀(k:Nat) p,ps[k]? =some p→∃u,vs[k]? =some u∧p.h M w u)→HL M w ps vs
 |[],[],_,_=>trivial
 |[],_::_,h,_=>by simp at h
 |_::_,[],h,_=>by simp at h
 |p::ps,v::vs,h,hk=>by
  refine ⟨?_,Ss (by simpa using h) fun k q hq=>by simpa using hk (k+1) q (by simpa using hq)⟩
  obtain ⟨u,hu,hp⟩:=hk 0 p rfl
  simp at hu;subst hu;exact hp
theorem Flat.hl {M:Av} {w:World} {sz:Nat} {rows:List (List Pr)} {news:List Value} (hsz:0<sz) (h:Flat M w sz rows news):HL M w rows.flatten news:=by
 have hl:∀r∈rows,r.length=sz:=fun r hr=>by obtain ⟨i,hi⟩:=List.mem_iff_getElem?.1 hr;exact (h.2.2 i r hi).1
 refine Ss (by rw [h.1,Bu hl]) fun k p hk=> ?_
 have GJ:k<rows.length*sz:=by rw [←Bu hl];rcases Nat.lt_or_ge k rows.flatten.length with h|h;exact h;rw [List.getElem?_eq_none h] at hk;cases hk
 have hi:k/sz<rows.length:=Nat.div_lt_of_lt_mul (by rw [Nat.mul_comm];exact GJ)
 have hj:k % sz<sz:=Nat.mod_lt _ hsz
 have he:k/sz*sz+k % sz=k:=by rw [Nat.mul_comm];exact Nat.div_add_mod k sz
 have hr:=List.getElem?_eq_getElem hi
 rw [←he,Ff hl hr hj] at hk
 obtain ⟨u,hu,hp⟩:=(h.2.2 _ _ hr).2 _ p hk
 exact ⟨u,by rw [←he];exact hu,hp⟩
theorem HL.flat {M:Av} {w:World} {sz:Nat} {rows:List (List Pr)} {qs:List Pr} {cs:List Value} (hl:∀r∈rows,r.length=sz) (h:HL M w (rows.flatten++qs) cs) (h1:∀c∈cs,c.oneCell'=true):Flat M w sz rows (cs.take (rows.length*sz)):=by
 have hfl:=Bu hl
 have hlen:=h.length
 refine ⟨by rw [List.length_take,hlen,List.length_append,hfl];omega,fun u hu=>h1 u (List.mem_of_mem_take hu),fun i row hi=> ?_⟩
 have hrl:=hl row (List.mem_of_getElem? hi)
 refine ⟨hrl,fun j p hp=> ?_⟩
 have hjl:j<sz:=by rw [←hrl];rcases Nat.lt_or_ge j row.length with h|h;exact h;rw [List.getElem?_eq_none h] at hp;cases hp
 have CS:i<rows.length:=by rcases Nat.lt_or_ge i rows.length with h|h;exact h;rw [List.getElem?_eq_none h] at hi;cases hi
 have hlt:i*sz+j<rows.length*sz:=by have:(i+1)*sz≤rows.length*sz:=Nat.mul_le_mul_right sz CS;rw [Nat.add_mul] at this;omega
 obtain ⟨u,hu,hh⟩:=h.at_ (i*sz+j) p (by rw [List.getElem?_append_left (by rw [hfl];exact hlt),Ff hl hi hjl];exact hp)
 exact ⟨u,by rw [List.getElem?_take,if_pos hlt];exact hu,hh⟩
theorem Cz {zs:List Value} {z:Array Value} {k:Nat} (hz:z.toList=zs) (h1:zs.all (·.oneCell')=true):∀c∈(Builtin.zeroCells z k).toList,c.oneCell'=true:=by
 intro c hc
 simp only [Builtin.zeroCells,Array.toList_map,Array.toList_range,List.mem_map,List.mem_range] at hc
 obtain ⟨i,hi,rfl⟩:=hc
 have hpos:0<z.size:=by rcases Nat.eq_zero_or_pos z.size with h|h;rw [h] at hi;simp at hi;exact h
 have hm:i % z.size<z.size:=Nat.mod_lt _ hpos
 rw [getElem!_pos z _ hm]
 exact List.all_eq_true.1 h1 _ (by rw [←hz];simp)
theorem VK {M:Av} {w:World} {t ty e:TypeId} {sz bytes:Nat} {zs:List Value} {rows:List (List Pr)} {u:Value} {j:Nat} (ht:P.underlying t=some (.slice e)) (hz:Ax P e=some sz) (hby:Bx P e=some bytes) (C1:Bb P e=some zs) (hzl:zs.length=sz) (hone:zs.all (·.oneCell')=true) (hsz:0<sz)
  (h:Am M0 w0 S rs M w) (hj:rs[j]? =some BT) (hu:(slice sz rows).h M w u) (hpos:0<rows.length) (CY:rows.length≤maxLen) (hfit:rows.length*bytes≤140737488355328):
  ∃v' w' M',(Builtin.append_ #[t,t] ty #[.slice none 0 0,u]).run P w= .ok v' w'∧(lens rows.length).h M' w' v'∧Ext M w M' w'∧Am M0 w0 S (rs.set j (E6 e sz rows v')) M' w':=by
 unfold Ax at hz
 unfold Bx at hby
 unfold Bb at C1
 cases hi:P.info? e with
 |none=>rw [hi] at hz;cases hz
 |some i=>
  rw [hi] at hz hby C1
  simp only [Option.map_some,Option.some.injEq,Option.map_eq_some_iff] at hz hby C1
  obtain ⟨z,QM,C1⟩:=C1
  have SW:z.cells.size=sz:=by rw [←hzl,←C1];simp
  obtain ⟨A',c',rfl,U5,MY,SX,C6⟩:=hu
  have JX:(slice sz rows).h M w (.slice A' rows.length c'):=⟨A',c',rfl,U5,MY,SX,C6⟩
  obtain ⟨Ie,rfl⟩:∃Ie,A'=some Ie:=by
   obtain ⟨_,b,hb,_⟩:=C6 0 _ (List.getElem?_eq_getElem hpos)
   exact ⟨b,hb⟩
  obtain ⟨news,hfl,hcell⟩:=C5 hsz JX
  have hrun:=run_append_nil (P:=P) w t ty e i z ht hi QM Ie rows.length c' news (by rw [hz];exact hfl.1) (fun k u hk=>(hcell k u hk).1) hpos (by unfold maxLen at CY;omega) (by rw [hby];omega)
  generalize hcap:grownCap w rows.length 0 e=cap at hrun
  have hge:rows.length≤cap:=by rw [←hcap];exact grownCap_ge _ _ _ _
  have hle:cap≤maxLen:=by rw [←hcap];exact grownCap_le_maxLen _ _ _ _ CY
  generalize LX:Builtin.zeroCells z.cells (cap-rows.length)=zc at hrun
  have hzs:zc.size=(cap-rows.length)*sz:=by rw [←LX,size_zeroCells,SW]
  have aU:∀c∈zc.toList,c.oneCell'=true:=by rw [←LX];exact Cz C1 hone
  have hb:Below w.heap.size w (w.drew.alloc (.cells (news.toArray++zc) e)):=((Below.refl _ _).drew).alloc (Nat.le_refl _) _
  have h2:=Ext.below (M:=M) hb
  have Dv:Ext M w (fun b o=>M b o∨b=w.heap.size) (w.drew.alloc (.cells (news.toArray++zc) e)):=by
   refine ⟨h2.size,fun a v hc hm=>⟨fun hx=> ?_,(h2.keep a v hc hm).2⟩,fun b o ho hp hm=>⟨fun hx=> ?_,(h2.obj b o ho hp hm).2⟩⟩
   ·
    rcases hx with hx|hx
    · exact hm hx
    · have:=C0 hc;omega
   ·
    rcases hx with hx|hx
    · exact hm hx
    · subst hx;simp at ho
  have hs1:(w.drew.alloc (.cells (news.toArray++zc) e)).heap.size=w.heap.size+1:=by simp
  refine ⟨_,_,fun b o=>M b o∨b=w.heap.size,hrun,⟨_,_,rfl⟩,Dv,?_⟩
  refine h.replace hj Dv hb.os hb.tape hb.output (fun k hk _=>hb.block k hk) rfl (fun b o hm _=> .inl hm) (fun b o hx=> ?_) ?_ rfl (fun b hbk=> ?_)
  ·
   rcases hx with hx|hx
   · have:=h.bd _ _ hx;omega
   · omega
  ·
   refine ⟨w.heap.size,cap,zc.toList,rfl,hge,hle,by simpa using hzs,fun o=> .inr rfl,news++zc.toList,?_,?_,?_⟩
   ·
    have hh:(w.drew.alloc (.cells (news.toArray++zc) e)).heap[w.heap.size]? =some (.cells (news.toArray++zc) e (0,0)):=heap_alloc_new w.drew _
    rw [hh];simp
   · exact ((hfl.st Dv).hl hsz).app (JD _ _ _)
   ·
    intro c hc
    rcases List.mem_append.1 hc with hc|hc
    · exact hfl.2.1 c hc
    · exact aU c hc
  ·
   have DN:some w.heap.size=some b:=hbk
   injection DN with e1
   subst e1
   exact ⟨by rw [hs1];omega,.inr (Nat.le_refl _)⟩
theorem Am.dz {M:Av} {w:World} {b cap sz:Nat} {e:TypeId} {rows:List (List Pr)} {qs:List Pr} {j:Nat} (h:Am M0 w0 S rs M w) (hj:rs[j]? =some (AA true b e (rows.flatten++qs))) (hl:∀r∈rows,r.length=sz) (hc:rows.length≤cap) (hm:cap≤maxLen) (hq:qs.length=(cap-rows.length)*sz):
  ∃M',Ext M w M' w∧Am M0 w0 S (rs.set j (BR e sz (.slice (some ⟨b,0,none⟩) rows.length cap))) M' w∧(slice sz rows).h M' w (.slice (some ⟨b,0,none⟩) rows.length cap):=by
 obtain ⟨⟨hM,cs,hh,hcs,hone⟩,SB⟩:=h.hold _ (List.mem_of_getElem? hj)
 have aV:=(SB b rfl).1
 have hfl:=HL.flat hl hcs hone
 have hlen:=hcs.length
 rw [List.length_append,Bu hl,hq,←Nat.add_mul,show rows.length+(cap-rows.length)=cap by omega] at hlen
 have he:Ext M w (fun b' o=>M b' o∧¬(b'=b∧o<rows.length*sz)) w:=Ext.less fun _ _ h=>h.1
 refine ⟨_,he,?_,Dr (hfl.st he) hc hm fun k u hk=> ?_⟩
 ·
  refine h.replace hj he rfl rfl rfl (fun _ _ _=>rfl) rfl (fun b' o hm' hne=>⟨hm',fun hx=>hne (by rw [hx.1];rfl)⟩) (fun b' o hx=>h.bd _ _ hx.1) ?_ rfl (fun b' hbk=> ?_)
  ·
   intro a' n' c' hv hlt
   injection hv with e1 e2 e3
   injection e1 with e1
   subst e1;subst e2;subst e3
   refine ⟨⟨cs.take (rows.length*sz),hfl.1,.inr ⟨b,cap,cs.toArray,rfl,Nat.zero_le _,hh,hc,hm,by simpa using hlen,by simp⟩⟩,fun o ho=>⟨hM o,fun hx=>by omega⟩⟩
  ·
   have DN:CG (.slice (some ⟨b,0,none⟩) rows.length cap)=some b':=hbk
   simp only [CG] at DN
   split at DN
   · simp at DN;subst DN;exact ⟨aV,.inl rfl⟩
   · cases DN
 ·
  have GJ:k<rows.length*sz:=by rw [←hfl.1];rcases Nat.lt_or_ge k (cs.take (rows.length*sz)).length with h|h;exact h;rw [List.getElem?_eq_none h] at hk;cases hk
  rw [List.getElem?_take,if_pos GJ] at hk
  exact ⟨by simp [World.cell?,hh,hk],fun hx=>hx.2 ⟨rfl,GJ⟩⟩
end
abbrev str (l:List UInt8):Pr:=is (.string ⟨l.toArray⟩)
theorem Fg (l:List UInt8):(ByteArray.mk l.toArray).toList=l:=by rw [ByteArray.toList_eq]
theorem KW (l:List UInt8):(ByteArray.mk l.toArray).size=l.length:=rfl
theorem str_eq {a b:List UInt8} (h:a=b):Pr.le (str a) (str b):=Pr.le_of_eq (by rw [h])
section
variable {P:Program} {L:Lg P} {E:Env} {I:B5} {o:Oper}
theorem O4 {t u:TypeId} {x y:Operand} {a b:List UInt8} (ho:o.op= .binOp .eql t x y u) (hx:VL E x (str a)) (hy:VL E y (str b)):AS P I o E (bool (decide (a=b))):=
 AS.same fun M w ac he _=>by
  have h1:ac.eval x=_:=hx.ev he (by simp [ho,Op.operands])
  have h2:ac.eval y=_:=hy.ev he (by simp [ho,Op.operands])
  refine ⟨_,by simp [execOp,ho,h1,h2,eqGuard,binOp,Op.stringOp,Fg];rfl,?_⟩
  show Value.bool _=Value.bool _
  congr 1
  rw [Bool.eq_iff_iff];simp
theorem YE {t u:TypeId} {x y:Operand} {a b:List UInt8} (ho:o.op= .binOp .neq t x y u) (hx:VL E x (str a)) (hy:VL E y (str b)):AS P I o E (bool (!decide (a=b))):=
 AS.same fun M w ac he _=>by
  have h1:ac.eval x=_:=hx.ev he (by simp [ho,Op.operands])
  have h2:ac.eval y=_:=hy.ev he (by simp [ho,Op.operands])
  refine ⟨_,by simp [execOp,ho,h1,h2,eqGuard,binOp,Op.stringOp,Fg];rfl,?_⟩
  show Value.bool _=Value.bool _
  congr 1
  rw [Bool.eq_iff_iff];simp
theorem KY:∀(a b:List UInt8),Op.bytesLess a b=decide (Lib.compareBytes a b= -1)
 |_,[]=>by cases ‹List UInt8›<;>simp [Op.bytesLess,Lib.compareBytes]
 |[],_::_=>by simp [Op.bytesLess,Lib.compareBytes]
 |a::x,b::y=>by
  rw [Op.bytesLess,KY x y,Lib.compareBytes]
  by_cases h1:a<b
  · simp [h1]
  ·
   by_cases h2:b<a
   ·
    have h3:a≠b:=fun e=>by subst e;exact h1 h2
    simp [h1,h2,h3]
   ·
    have h3:a=b:=UInt8.le_antisymm (UInt8.not_lt.1 h2) (UInt8.not_lt.1 h1)
    simp [h1,h2,h3]
theorem CK:∀(a b:List UInt8),Lib.compareBytes a b=0↔a=b
 |[],[]=>by simp [Lib.compareBytes]
 |[],_::_=>by simp [Lib.compareBytes]
 |_::_,[]=>by simp [Lib.compareBytes]
 |a::x,b::y=>by
  rw [Lib.compareBytes]
  by_cases h1:a<b
  ·
   simp only [h1,if_true]
   constructor
   · intro h;cases h
   · intro h;injection h with e _;subst e;exact absurd h1 (UInt8.lt_irrefl _)
  ·
   by_cases h2:b<a
   ·
    simp only [h1,h2,if_true,if_false]
    constructor
    · intro h;cases h
    · intro h;injection h with e _;subst e;exact absurd h2 (UInt8.lt_irrefl _)
   ·
    have h3:a=b:=UInt8.le_antisymm (UInt8.not_lt.1 h2) (UInt8.not_lt.1 h1)
    rw [if_neg h1,if_neg h2,CK x y];simp [h3]
theorem EP:∀(a b:List UInt8),Lib.compareBytes b a= -Lib.compareBytes a b
 |[],[]=>rfl
 |[],_::_=>rfl
 |_::_,[]=>rfl
 |a::x,b::y=>by
  rw [Lib.compareBytes,Lib.compareBytes,EP x y]
  by_cases h1:a<b
  ·
   have h2:¬b<a:=fun h=>UInt8.lt_asymm h1 h
   simp [h1,h2]
  · by_cases h2:b<a<;>simp [h1,h2]
theorem Il:∀(a b:List UInt8),Lib.compareBytes a b= -1∨Lib.compareBytes a b=0∨Lib.compareBytes a b=1
 |[],[]=>by simp [Lib.compareBytes]
 |[],_::_=>by simp [Lib.compareBytes]
 |_::_,[]=>by simp [Lib.compareBytes]
 |a::x,b::y=>by
  rw [Lib.compareBytes]
  split
  · simp
  ·
   split
   · simp
   · exact Il x y
theorem O5 {t u:TypeId} {x y:Operand} {a b:List UInt8} (ho:o.op= .binOp .lss t x y u) (hx:VL E x (str a)) (hy:VL E y (str b)):AS P I o E (bool (decide (Lib.compareBytes a b= -1))):=
 AS.same fun M w ac he _=>by
  have h1:ac.eval x=_:=hx.ev he (by simp [ho,Op.operands])
  have h2:ac.eval y=_:=hy.ev he (by simp [ho,Op.operands])
  exact ⟨_,by simp [execOp,ho,h1,h2,eqGuard,binOp,Op.stringOp,Fg,KY],rfl⟩
theorem YF {t u:TypeId} {x y:Operand} {a b:List UInt8} (ho:o.op= .binOp .gtr t x y u) (hx:VL E x (str a)) (hy:VL E y (str b)):AS P I o E (bool (decide (Lib.compareBytes a b=1))):=
 AS.same fun M w ac he _=>by
  have h1:ac.eval x=_:=hx.ev he (by simp [ho,Op.operands])
  have h2:ac.eval y=_:=hy.ev he (by simp [ho,Op.operands])
  refine ⟨_,by simp [execOp,ho,h1,h2,eqGuard,binOp,Op.stringOp,Fg,KY];rfl,?_⟩
  show Value.bool _=Value.bool _
  congr 1
  rw [Bool.eq_iff_iff]
  have h3:=CK a b
  rcases Il a b with h|h|h
  · simp [h]
  ·
   have h4:=h3.1 h
   rw [h];simp [h4]
  ·
   have:a≠b:=fun e=>by have:=h3.2 e;omega
   simp [h,this]
theorem RK {f : FuncId} {fn : Func} {x y : Operand} {ts : Array TypeId} {a b : List UInt8} (ho : o.op = .call { callee := .value (.func f), args := #[x, y], argTypes := ts }) (hf : P.funcs[f]? = some fn) (hname : (fn.name == "runtime.NumGoroutine") = false)
  (hb:fn.body.isNone=true) (hn:Extern.findNext fn=none) (hex:Extern.find fn=some Extern.BytealgCompare.compare) (hx:VL E x (str a)) (hy:VL E y (str b)):AS P I o E (int (Lib.compareBytes a b)):=
 AS.same fun M w ac he _=>by
  have h1:ac.eval x=_:=hx.ev he (by simp [ho,Op.operands,Call.operands])
  have h2:ac.eval y=_:=hy.ev he (by simp [ho,Op.operands,Call.operands])
  have h3:ac.eval (.func f)= .func (.func f) #[] #[]:=rfl
  refine ⟨_,?_,rfl⟩
  have hrun:(execOp ac.eval o).run P w=(callFunc f #[ac.eval x,ac.eval y]).run P w:=by simp [execOp,ho,resolve,Deferred.ofValue,invoke,h3]
  rw [hrun,h1,h2,run_callFunc_extern hf hname hb hn hex,Lib.run_compareString]
  rfl
theorem VM {t:TypeId} {x:Operand} {a:List UInt8} (ho:o.op= .call { callee:= .builtin .len,args:= #[x],argTypes:= #[t] }) (ht:P.underlying t=some .string) (hx:VL E x (str a)):AS P I o E (int ((a.length:Nat):Int)):=
 AS.same fun M w ac he _=>by
  have h1:ac.eval x=_:=hx.ev he (by simp [ho,Op.operands,Call.operands])
  exact ⟨.int .i64 a.length,by simp [execOp,ho,resolve,invoke,builtin,Builtin.len_,h1,run_underlying ht,goInt,KW],rfl⟩
theorem Ml {t:TypeId} {x y:Operand} {k:IntKind} {a:List UInt8} {i:Int} {c:UInt8} (ho:o.op= .index t x y) (ht:P.underlying t=some .string) (hx:VL E x (str a)) (hy:VL E y (is (.int k i))) (h0:0≤i) (hc:a[i.toNat]? =some c):AS P I o E (is (.int .u8 c.toNat)):=
 AS.same fun M w ac he _=>by
  have h1:ac.eval x=_:=hx.ev he (by simp [ho,Op.operands])
  have h2:ac.eval y=_:=hy.ev he (by simp [ho,Op.operands])
  refine ⟨_,?_,rfl⟩
  have hlt:i.toNat<a.length:=by rcases Nat.lt_or_ge i.toNat a.length with h|h;exact h;rw [List.getElem?_eq_none h] at hc;cases hc
  have h3:(ByteArray.mk a.toArray)[i.toNat]? =some c:=by
   rw [getElem?_pos (ByteArray.mk a.toArray) i.toNat (by rw [KW];exact hlt)]
   rw [List.getElem?_eq_getElem hlt] at hc
   simp only [Option.some.injEq] at hc
   rw [←hc]
   rfl
  simp [execOp,ho,h1,h2,Instr.index,asIntOf,run_underlying ht,h0,h3]
theorem Su {s t e:TypeId} {x:Operand} {a:List UInt8} (ho:o.op= .convert s t x) (hs:P.underlying s=some .string) (ht:P.underlying t=some (.slice e)) (he:P.underlying e=some (.int .u8)) (hx:VL E x (str a)) (hm:a.length≤maxLen):AS P I o E (slice 1 (a.map fun c=>[is (.int .u8 c.toNat)])):=
 AS.val fun M w ac d_ hI=>by
  have h1:ac.eval x=_:=hx.ev d_ (by simp [ho,Op.operands])
  have hrun:=Lib.run_convert_string_bytes (P:=P) w s t e ⟨a.toArray⟩ hs ht he
  have hcap:=grownCap_ge w a.length 0 e
  have hcm:=grownCap_le_maxLen w a.length 0 e hm
  refine ⟨.slice (some ⟨w.heap.size,0,none⟩) a.length (grownCap w a.length 0 e),Lib.bytesWorld w e ⟨a.toArray⟩,by simp [execOp,ho,h1,hrun];exact ⟨rfl,rfl⟩,?_,?_⟩
  ·
   have hbd:Bd M w:=I.bd _ _ hI
   refine ⟨_,grownCap w a.length 0 e,by rw [List.length_map],by rw [List.length_map];exact hcap,hcm,(fun h=>by cases h),fun i row hr=> ?_⟩
   rw [List.getElem?_map] at hr
   cases hc:a[i]? with
   |none=>rw [hc] at hr;cases hr
   |some c=>
    rw [hc] at hr
    simp only [Option.map_some,Option.some.injEq] at hr
    subst hr
    have CS:i<a.length:=by rcases Nat.lt_or_ge i a.length with h|h;exact h;rw [List.getElem?_eq_none h] at hc;cases hc
    refine ⟨rfl,_,rfl,fun j p hp=> ?_⟩
    have hj:j=0:=by
     rcases Nat.eq_zero_or_pos j with h|h
     · exact h
     · rw [List.getElem?_eq_none (by simp;omega)] at hp;cases hp
    subst hj
    simp only [List.getElem?_cons_zero,Option.some.injEq] at hp
    subst hp
    refine ⟨.int .u8 c.toNat,?_,fun dX=> ?_,rfl,rfl⟩
    ·
     rw [show Addr.add ⟨w.heap.size,0,none⟩ (i*1+0)=⟨w.heap.size,i,none⟩ by unfold Addr.add;split<;>simp_all]
     rw [Lib.bytesWorld_cell w e ⟨a.toArray⟩ i (by rw [KW];exact CS)]
     have:([]++a).getD i 0=c:=by simp [hc]
     simp [hc]
    · have:=hbd _ _ dX;simp at this
  · exact Lib.bytesWorld_below w e ⟨a.toArray⟩
theorem QY {a:List UInt8} {k:Nat} {c:UInt8} (h:a[k]? =some c):a[((k:Nat):Int).toNat]? =some c:=h
theorem Nf {t e:TypeId} {x y:Operand} {k:IntKind} {i:Int} {len sz:Nat} {ps qs:List Pr} (ho:o.op= .index t x y) (ht:P.underlying t=some (.array len e)) (he:GH P e=true) (hz:Ax P e=some sz) (hx:VL E x (agg ps)) (hy:VL E y (is (.int k i))) (h0:0≤i) (hl:i<len)
  (hq:(ps.drop (i.toNat*sz)).take sz=qs):AS P I o E (agg qs):=
 AS.same fun M w ac d_ _=>by
  obtain ⟨cs,h1,fu,h2⟩:=hx.ev d_ (by simp [ho,Op.operands])
  have h3:ac.eval y=_:=hy.ev d_ (by simp [ho,Op.operands])
  refine ⟨.agg (cs.toArray.extract (i.toNat*sz) (i.toNat*sz+sz)),?_,(cs.drop (i.toNat*sz)).take sz,?_,fun c hc=>fu c (List.mem_of_mem_drop (List.mem_of_mem_take hc)),by rw [←hq];exact (h2.drop _).take _⟩
  · simp [execOp,ho,h1,h3,Instr.index,asIntOf,run_underlying ht,h0,hl,BZ hz,part,Cy he]
  ·
   congr 1
   apply Array.toList_inj.1
   simp [List.extract,Nat.add_sub_cancel_left]
theorem Mm {M:Av} {w:World} {v:Value} {xs:List Value} (h:(agg (xs.map is)).h M w v):v= .agg xs.toArray:=by
 obtain ⟨cs,rfl,ho,h2⟩:=h
 congr 1
 have:cs=xs:=by
  clear ho
  induction xs generalizing cs with
  |nil=>cases cs with
   |nil=>rfl
   |cons c cs=>exact h2.elim
  |cons x xs ih=>cases cs with
   |nil=>exact h2.elim
   |cons c cs=>rw [ih cs h2.2,show c=x from h2.1]
 rw [this]
theorem Sv {t u:TypeId} {x y:Operand} {r:Bool} (xs ys:List Value) (ho:o.op= .binOp .eql t x y u) (hx:VL E x (agg (xs.map is))) (hy:VL E y (agg (ys.map is))) (hg:P.eqGuardType P.depth t=false) (hr:∀w,(Op.equal t (.agg xs.toArray) (.agg ys.toArray)).run P w= .ok r w):AS P I o E (bool r):=
 AS.same fun M w ac he _=>by
  have h1:=Mm (hx.ev he (by simp [ho,Op.operands]))
  have h2:=Mm (hy.ev he (by simp [ho,Op.operands]))
  exact ⟨_,by simp [execOp,ho,h1,h2,eqGuard,hg,binOp,hr w],rfl⟩
theorem jY {P:Program} {w:World} {d:Nat} {t:TypeId} {fs:Array Field} {xs ys:Array Value} {r:Bool} (ht:P.underlying t=some (.struct fs)) (hp:P.stoodInHeld t=false) (h:(Op.eqFields d xs ys fs.toList).run P w= .ok r w):(Op.equalIn (d+1) t (.agg xs) (.agg ys)).run P w= .ok r w:=by
 have hf:P.fieldsOf t=fs:=by unfold Program.fieldsOf;rw [ht]
 rw [run_equalIn_struct w d t xs ys (by rw [hf];exact ht) hp,hf];exact h
theorem QZ {P:Program} {w:World} {d:Nat} {xs ys:Array Value}:(Op.eqFields d xs ys []).run P w= .ok true w:=by simp [Op.eqFields]
theorem Hr {P : Program} {w : World} {d : Nat} {xs ys : Array Value} {f : Field} {fs : List Field} {vx vy : Value} {r q : Bool} (hn : f.name ≠ "_") (ha : (part f.type xs f.offset).run P w = .ok vx w) (hb : (part f.type ys f.offset).run P w = .ok vy w)
  (he:(Op.equalIn d f.type vx vy).run P w= .ok r w) (hr:(Op.eqFields d xs ys fs).run P w= .ok q w):(Op.eqFields d xs ys (f::fs)).run P w= .ok (r&&q) w:=by
 simp only [Op.eqFields,hn,ne_eq,not_false_eq_true,if_true,Sem.run_bind,ha,hb,he,Result.andThen_ok]
 cases r
 · simp
 · simpa using hr
theorem Ce {P:Program} {w:World} {t:TypeId} {cs:Array Value} {off:Nat} {v:Value} (h1:FE P t=true) (hv:cs[off]? =some v):(part t cs off).run P w= .ok v w:=by
 simp [part,Dq h1,hv]
theorem Hs {P:Program} {w:World} {d:Nat} {t:TypeId} {k:IntKind} {a b:Int} (h:P.underlying t=some (.int k)):(Op.equalIn (d+1) t (.int k a) (.int k b)).run P w= .ok (decide (a=b)) w:=by
 rw [run_equalIn_int w d t k k a b h];rfl
end
section
variable {P:Program} {L:Lg P} {E:Env} {I:B5} {o:Oper}
theorem KZ {M:Av} {w:World} {sz:Nat} {rows:List (List Pr)} {A:Option Addr} {cap lo hi:Nat} (h:(slice sz rows).h M w (.slice A rows.length cap)) (h1:lo≤hi) (h2:hi≤rows.length):
  (slice sz ((rows.take hi).drop lo)).h M w (.slice (if cap=lo then A else A.map (·.add (lo*sz))) (hi-lo) (cap-lo)):=by
 obtain ⟨A',cap',hv,hc,hm,hA,hr⟩:=h
 injection hv with e1 _ e3
 subst e1;subst e3
 have hlen:((rows.take hi).drop lo).length=hi-lo:=by rw [List.length_drop,List.length_take];omega
 refine ⟨_,cap-lo,by rw [hlen],by rw [hlen];omega,by omega,fun h=> ?_,fun i row hi'=> ?_⟩
 ·
  split at h
  · have:=hA h;omega
  ·
   cases jZ:A with
   |none=>have:=hA jZ;omega
   |some a=>rw [jZ] at h;cases h
 ·
  rw [List.getElem?_drop,List.getElem?_take] at hi'
  split at hi'
  ·
   rename_i hlt
   obtain ⟨h3,ad,h4,h5⟩:=hr _ row hi'
   subst h4
   rw [if_neg (by omega)]
   refine ⟨h3,_,rfl,fun j p hp=> ?_⟩
   obtain ⟨u,h6,h7,h8,h9⟩:=h5 j p hp
   refine ⟨u,?_,?_,h8,h9⟩
   · rw [add_add,show lo*sz+(i*sz+j)=(lo+i)*sz+j by rw [Nat.add_mul];omega];exact h6
   · rw [EE,He,show ad.off+lo*sz+(i*sz+j)=ad.off+((lo+i)*sz+j) by rw [Nat.add_mul];omega];exact h7
  · cases hi'
theorem BM {t e:TypeId} {x y:Operand} {k:IntKind} {h:Int} {sz:Nat} {rows:List (List Pr)} (ho:o.op= .slice t x none (some y) none) (ht:P.underlying t=some (.slice e)) (hz:Ax P e=some sz) (hx:VL E x (slice sz rows)) (hy:VL E y (is (.int k h))) (h0:0≤h) (hl:h≤rows.length):
  AS P I o E (slice sz (rows.take h.toNat)):=
 AS.same fun M w a he _=>by
  have h1:=hx.ev he (by simp [ho,Op.operands])
  have h3:a.eval y=_:=hy.ev he (by simp [ho,Op.operands])
  obtain ⟨A,cap,hv,hc,hm,hA,hr⟩:=h1
  have h2:=KZ (lo:=0) (hi:=h.toNat) (show (slice sz rows).h M w (.slice A rows.length cap) from ⟨A,cap,rfl,hc,hm,hA,hr⟩) (by omega) (by omega)
  refine ⟨_,?_,by simpa using h2⟩
  have hb:h≤(cap:Int):=by omega
  simp [execOp,ho,hv,h3,Instr.sliceAt,Instr.slice,run_underlying ht,Instr.sliceBounds,Instr.sliceBound,asIntOf,h0,hb,BZ hz]
theorem At {t e:TypeId} {x y:Operand} {k:IntKind} {l:Int} {sz:Nat} {rows:List (List Pr)} (ho:o.op= .slice t x (some y) none none) (ht:P.underlying t=some (.slice e)) (hz:Ax P e=some sz) (hx:VL E x (slice sz rows)) (hy:VL E y (is (.int k l))) (h0:0≤l) (hl:l≤rows.length):
  AS P I o E (slice sz (rows.drop l.toNat)):=
 AS.same fun M w a he _=>by
  have h1:=hx.ev he (by simp [ho,Op.operands])
  have h3:a.eval y=_:=hy.ev he (by simp [ho,Op.operands])
  obtain ⟨A,cap,hv,hc,hm,hA,hr⟩:=h1
  have h2:=KZ (lo:=l.toNat) (hi:=rows.length) (show (slice sz rows).h M w (.slice A rows.length cap) from ⟨A,cap,rfl,hc,hm,hA,hr⟩) (by omega) (Nat.le_refl _)
  rw [List.take_length] at h2
  refine ⟨_,?_,h2⟩
  simp [execOp,ho,hv,h3,Instr.sliceAt,Instr.slice,run_underlying ht,Instr.sliceBounds,Instr.sliceBound,asIntOf,h0,hl,BZ hz]
end
abbrev Dd:Pr:=is (.tuple #[])
section
variable {P:Program} {L:Lg P} {n:Fm} {fz:Nat} {E:Env} {M0:Av} {w0:World} {S:Nat→Prop} {rs:List Ao} {o:Oper} {g:Func} {M1:Av} {w1:World}
theorem results0 {g:Func} {a:Act} {w:World} (hr:g.results= #[]):(results g a.tmps).run P w= .ok (.tuple #[]) w:=by
 rw [HM,hr];simp [Sem.run_bind]
theorem Fin.aW (hr:g.results= #[]):Fin ⟨fz,[]⟩ E (Hp M0 w0 J9 rs) (bodyPost P g (NQ M0 w0 Dd)) .normal:=by
 rintro a w ⟨M,_,hd,he,hi⟩
 obtain ⟨h1,h2⟩:=Bq.D3 M0 w0 M w hi
 exact ⟨hd,_,results0 hr,_,rfl,rfl,h2⟩
theorem Fin.aX (hr:g.results= #[]):Fin ⟨fz,[]⟩ E (Hp M0 w0 J9 rs) (bodyPost P g (NQ M0 w0 Dd)) .ret:=by
 rintro a w ⟨M,_,hd,he,hi⟩
 obtain ⟨h1,h2⟩:=Bq.D3 M0 w0 M w hi
 exact ⟨hd,_,results0 hr,_,rfl,rfl,h2⟩
theorem Fin.JK {r:Ao} (hr:g.results= #[]):Fin ⟨fz,[]⟩ E (Hp M0 w0 S (r::Ak M1 w1::rs)) (bodyPost P g (JI M0 w0 S rs M1 w1 Dd (fun _=>r))) .normal:=by
 rintro a w ⟨M,_,hd,he,hi⟩
 obtain ⟨h1,h2⟩:=RG hi
 exact ⟨hd,_,results0 hr,_,M,rfl,rfl,h1,h2⟩
def Qa (E:Env) (v0:Value) (q0:Pr):List Operand→List Pr→Prop
 |[],[]=>True
 |x::xs,p::ps=>(VL E x p∨(VL E x (is v0)∧Pr.le (Aq v0 q0) p))∧Qa E v0 q0 xs ps
 |_,_=>False
theorem Qa.ev {M M':Av} {w:World} {a:Act} {v0:Value} {q0:Pr} (he:B8 M w E o a) (hx:Ext M w M' w) (h0:q0.h M' w v0):∀{xs:List Operand} {ps:List Pr},(∀x∈xs,x∈o.op.operands.toList)→Qa E v0 q0 xs ps→HL M' w ps (xs.map a.eval)
 |[],[],_,_=>trivial
 |[],_::_,_,h=>h.elim
 |_::_,[],_,h=>h.elim
 |x::xs,p::ps,hm,h=>by
  refine ⟨?_,Qa.ev he hx h0 (fun y hy=>hm y (List.mem_cons_of_mem _ hy)) h.2⟩
  rcases h.1 with h1|⟨h1,h2⟩
  · exact p.st _ _ _ _ _ hx (h1.ev he (hm x (by simp)))
  ·
   have h3:a.eval x=v0:=h1.ev he (hm x (by simp))
   exact h2 _ _ _ ⟨h3,by rw [h3];exact h0⟩
class Ht (p:Pr):Prop where
 free:∀M M' w v,p.h M w v→p.h M' w v
instance eA (u:Value):Ht (is u):=⟨fun _ _ _ _ h=>h⟩
instance ZS (m:Nat):Ht (lens m):=⟨fun _ _ _ _ h=>h⟩
end
def Ed (es:List (Value×Value)):Array MapEntry:=(es.zipIdx.map fun p=>({ key:=p.1.1,val:=p.1.2,born:=p.2 }:MapEntry)).toArray
theorem ER (es:List (Value×Value)) (i:Nat):(Ed es)[i]? =(es[i]?).map fun p=>{ key:=p.1,val:=p.2,born:=i }:=by
 simp [Ed,List.getElem?_zipIdx]
 cases es[i]? <;>simp
theorem Ng (es:List (Value×Value)) (k v:Value):(Ed es).push { key:=k,val:=v,born:=es.length }=Ed (es++[(k,v)]):=by
 apply Array.toList_inj.1
 simp [Ed,List.zipIdx_append]
theorem Qb {es:List (Value×Value)} {i:Nat} (h:i<es.length) (k v:Value):((Ed es).modify i fun e=>{ e with key:=k,val:=v })=Ed (es.set i (k,v)):=by
 apply Array.ext_getElem?
 intro j
 rw [Array.getElem?_modify,ER,ER,List.getElem?_set]
 by_cases hj:i=j
 ·
  subst hj
  simp [h]
 · simp [hj]
structure O6 (P:Program) (T kt et:TypeId) {κ:Type} [DecidableEq κ] (enc:κ→Value):Prop where
 O7:P.underlying T=some (.map kt et)
 zero:∀w,(zeroValue et).run P w= .ok (.int .i64 0) w
 eq:∀a b w,(Op.equal kt (enc a) (enc b)).run P w= .ok (decide (a=b)) w
 RL:∀e a w,(Instr.checkKey e 10000 kt (enc a)).run P w= .ok () w
 Sw:∃d,P.underlying kt=some d∧((∀a b,Instr.sameNow d (enc a) (enc b)=none)∨∀a b,Instr.sameNow d (enc a) (enc b)=some (decide (a=b)))
 bits:∀a,Instr.sameBits 10000 (enc a) (enc a)=true
section
variable {P:Program} {L:Lg P} {n:Fm} {fz:Nat} {E:Env} {M0:Av} {w0:World} {S:Nat→Prop} {rs:List Ao} {o:Oper} {κ:Type} [DecidableEq κ] {enc:κ→Value}
abbrev D0 (enc:κ→Value) (es:List (κ×Int)):List (Value×Value):=es.map fun p=>(enc p.1,.int .i64 p.2)
def G3 (enc:κ→Value) (b:Nat) (es:List (κ×Int)):Ao where
 Ee:=some b
 new:=true
 h M w:=(∀o,M b o)∧w.heap[b]? =some (.map (Ed (D0 enc es)) es.length)
 st M w M' w' he hk h:=by
  obtain ⟨h1,h2⟩:=hk b rfl
  exact ⟨fun o=>h2 o (h.1 o),h1.trans h.2⟩
def look (es:List (κ×Int)) (k:κ):Option Int:=(es.find? fun p=>decide (k=p.1)).map (·.2)
def Fh (es:List (κ×Int)) (k:κ) (v:Int):List (κ×Int):=match es.findIdx? fun p=>decide (k=p.1) with|some i=>es.set i (k,v)|none=>es++[(k,v)]
theorem JL {T kt et:TypeId} (hT:O6 P T kt et enc) (k:κ) (w:World):∀(es:List (κ×Int)) (i c:Nat),
  (Instr.findAsking kt (enc k) ((es.zipIdx c).map fun p=>({ key:=enc p.1.1,val:= .int .i64 p.1.2,born:=p.2 }:MapEntry)) i).run P w= .ok ((es.findIdx? fun p=>decide (k=p.1)).bind fun j=>(es[j]?).map fun p=>(i+j,.int .i64 p.2)) w
 |[],i,c=>by simp [Instr.findAsking]
 |p::es,i,c=>by
  rw [List.zipIdx_cons,List.map_cons,Instr.findAsking,Sem.run_bind,hT.eq,Result.andThen_ok]
  by_cases h:k=p.1
  · simp [h,List.findIdx?_cons]
  ·
   rw [if_neg (by simpa using h),JL hT k w es (i+1) (c+1),List.findIdx?_cons]
   simp only [h,decide_false,Bool.false_eq_true,if_false]
   congr 1
   cases hf:es.findIdx? fun p=>decide (k=p.1) with
   |none=>simp
   |some j=>simp [Nat.add_assoc,Nat.add_comm 1 j]
theorem Nh {d:TypeDesc} (hn:∀a b:κ,Instr.sameNow d (enc a) (enc b)=some (decide (a=b))) (k:κ):∀(es:List (κ×Int)) (i c:Nat),
  Instr.findNow d (enc k) ((es.zipIdx c).map fun p=>({ key:=enc p.1.1,val:= .int .i64 p.1.2,born:=p.2 }:MapEntry)) i=some ((es.findIdx? fun p=>decide (k=p.1)).bind fun j=>(es[j]?).map fun p=>(i+j,.int .i64 p.2))
 |[],i,c=>by simp [Instr.findNow]
 |p::es,i,c=>by
  rw [List.zipIdx_cons,List.map_cons,Instr.findNow,hn]
  by_cases h:k=p.1
  · simp [h,List.findIdx?_cons]
  ·
   simp only [h,decide_false]
   rw [Nh hn k es (i+1) (c+1),List.findIdx?_cons]
   simp only [h,decide_false,Bool.false_eq_true,if_false]
   congr 1
   cases hf:es.findIdx? fun p=>decide (k=p.1) with
   |none=>simp
   |some j=>simp [Nat.add_assoc,Nat.add_comm 1 j]
theorem Kc {T kt et:TypeId} (hT:O6 P T kt et enc) (k:κ) (w:World) (es:List (κ×Int)):
  (Instr.findKey kt (enc k) (Ed (D0 enc es)).toList).run P w= .ok ((es.findIdx? fun p=>decide (k=p.1)).bind fun j=>(es[j]?).map fun p=>(j,.int .i64 p.2)) w:=by
 obtain ⟨d,hd,hn⟩:=hT.Sw
 have hl:(Ed (D0 enc es)).toList=(es.zipIdx 0).map fun p=>({ key:=enc p.1.1,val:= .int .i64 p.1.2,born:=p.2 }:MapEntry):=by
  simp [Ed,D0,List.zipIdx_map]
 rw [hl]
 unfold Instr.findKey
 rw [Sem.run_bind,run_underlying hd,Result.andThen_ok]
 rcases hn with hn|hn
 rotate_left
 · rw [Nh hn k es 0 0];simp
 cases es with
 |nil=>simp [Instr.findNow]
 |cons p es=>
  have h1:Instr.findNow d (enc k) (((p::es).zipIdx 0).map fun p=>({ key:=enc p.1.1,val:= .int .i64 p.1.2,born:=p.2 }:MapEntry)) 0=none:=by
   rw [List.zipIdx_cons,List.map_cons,Instr.findNow,hn]
  rw [h1]
  have:=JL hT k w (p::es) 0 0
  simpa using this
theorem Am.VN {M:Av} {w:World} {obj:Obj} {r:Ao} (h:Am M0 w0 S rs M w) (hb:r.Ee=some w.heap.size) (hn:r.new=true) (hr:r.h (fun b o=>M b o∨b=w.heap.size) (w.alloc obj)):
  Am M0 w0 S (r::rs) (fun b o=>M b o∨b=w.heap.size) (w.alloc obj)∧Ext M w (fun b o=>M b o∨b=w.heap.size) (w.alloc obj):=by
 have aV:Below w.heap.size w (w.alloc obj):=(Below.refl _ _).alloc (Nat.le_refl _) _
 have hsz:(w.alloc obj).heap.size=w.heap.size+1:=by simp
 have he:Ext M w (fun b o=>M b o∨b=w.heap.size) (w.alloc obj):=by
  have h2:=Ext.below (M:=M) aV
  refine ⟨h2.size,fun a v hc hm=>⟨fun hx=> ?_,(h2.keep a v hc hm).2⟩,fun b o ho hp hm=>⟨fun hx=> ?_,(h2.obj b o ho hp hm).2⟩⟩
  ·
   rcases hx with hx|hx
   · exact hm hx
   · have:=C0 hc;omega
  ·
   rcases hx with hx|hx
   · exact hm hx
   · subst hx;simp at ho
 have hI:=(Hp M0 w0 S rs).st _ _ _ aV h
 refine ⟨⟨hI.m0,fun b o hm=> .inl (hI.m b o hm),hI.os,hI.tape,hI.output,hI.size,hI.block,fun b o hm=> ?_,fun r' hr'=> ?_,?_⟩,he⟩
 ·
  rcases hm with hm|hm
  · exact hI.bd b o hm
  · omega
 ·
  rcases List.mem_cons.1 hr' with rfl|hr'
  ·
   refine ⟨hr,fun b hbk=> ?_⟩
   rw [hb] at hbk
   injection hbk with hbk
   subst hbk
   exact ⟨by omega,by rw [hn];simpa using h.size⟩
  ·
   obtain ⟨h3,h4⟩:=h.hold r' hr'
   exact ⟨r'.st _ _ _ _ he (fun b hbk=>⟨aV.block b (h4 b hbk).1,fun _ x=> .inl x⟩) h3,fun b hbk=>⟨by have:=(h4 b hbk).1;omega,(h4 b hbk).2⟩⟩
 ·
  refine List.Pairwise.cons (fun r' hr' b hbk DN=> ?_) h.nd
  rw [hb] at hbk
  injection hbk with hbk
  have:=((h.hold r' hr').2 b DN).1
  omega
def F9 (w:World) (b:Nat) (o:Obj):World:={ w with heap:=w.heap.setIfInBounds b o }
theorem Jo {w:World} {b:Nat} {o:Obj} (h:b<w.heap.size):(F9 w b o).heap[b]? =some o:=by
 show (w.heap.setIfInBounds b o)[b]? =_
 rw [Array.getElem?_setIfInBounds];simp [h]
theorem HN {w:World} {b k:Nat} {o:Obj} (h:k≠b):(F9 w b o).heap[k]? =w.heap[k]? :=by
 show (w.heap.setIfInBounds b o)[k]? =_
 rw [Array.getElem?_setIfInBounds,if_neg (fun e=>h e.symm)]
theorem Am.VO {M:Av} {w:World} {obj:Obj} {r r':Ao} {j b:Nat} (h:Am M0 w0 S rs M w) (hj:rs[j]? =some r) (hb:r.Ee=some b) (hb':r'.Ee=some b) (hn:r.new=true) (hn':r'.new=true) (hM:∀o,M b o) (hr:r'.h M (F9 w b obj)):
  Am M0 w0 S (rs.set j r') M (F9 w b obj)∧Ext M w M (F9 w b obj):=by
 have hlt:=((h.hold r (List.mem_of_getElem? hj)).2 b hb).1
 have hsz:(F9 w b obj).heap.size=w.heap.size:=by simp [F9]
 have he:Ext M w M (F9 w b obj):=by
  refine ⟨by omega,fun a v hc hm=>⟨hm,?_⟩,fun k o ho hp hm=>⟨hm,?_⟩⟩
  · rw [World.cell?_of_block (w:=w) (HN (fun e=>hm (by rw [e];exact hM _)))];exact hc
  · rw [HN (fun e=>hm (by rw [e];exact hM _))];exact ho
 refine ⟨h.replace hj he rfl rfl rfl (fun k _ hk=>HN (fun e=>hk (by rw [hb,e]))) hn (fun _ _ hm _=>hm) (fun k o hm=>by rw [hsz];exact h.bd k o hm) hr hn' (fun k hk=> ?_),he⟩
 rw [hb'] at hk
 injection hk with hk
 subst hk
 exact ⟨by omega,.inl hb⟩
variable {Q:Exit→Act→World→Prop} {ops:Array Oper} {r:List Oper}
omit [DecidableEq κ] in
theorem TO.XE {d:Nat} {T:TypeId} (enc:κ→Value) (hg:o.guard=none) (hd:o.dst=some d) (hn:d<n) (ho:o.op= .makeMap T none)
  (k:∀b,TO P n ops r ((d,is (.map (some b)))::E) (Hp M0 w0 S (G3 enc b []::rs)) Q):TO P n ops (o::r) E (Hp M0 w0 S rs) Q:=
 TO.MV hg fun K M w a hsz hdf he hI hK=>by
  refine TO.val (v:= .map (some w.heap.size)) (w':=w.alloc (.map #[] 0)) ?_ ?_
  · simp [execOp,ho,Instr.makeMap]
  ·
   obtain ⟨h2,h3⟩:=Am.VN (obj:= .map #[] 0) (r:=G3 enc w.heap.size []) hI rfl rfl ⟨fun _=> .inr rfl,by rw [heap_alloc_new];rfl⟩
   refine hK _ _ _ _ (k w.heap.size) ⟨_,by rw [BN];exact hsz,by rw [put_defers];exact hdf,?_,h2⟩
   intro s p hp
   simp only [List.lookup] at hp
   by_cases hs:s=d
   · subst hs;simp at hp;subst hp;rw [hd,A_ (by rw [hsz];exact hn)];rfl
   ·
    rw [show (s==d)=false by simpa using hs] at hp
    rw [hd,BD hs]
    exact p.st _ _ _ _ _ h3 (he s p hp)
theorem D9 {β:Type} (p:β→Bool):∀l:List β,(l.findIdx? p).bind (fun j=>l[j]?)=l.find? p
 |[]=>rfl
 |a::l=>by
  have ih:=D9 p l
  rw [List.findIdx?_cons,List.find?_cons]
  cases h:p a with
  |true=>simp
  |false=>
   simp only [Bool.false_eq_true,if_false]
   rw [←ih]
   cases l.findIdx? p<;>simp
theorem RM {T kt et:TypeId} {x y:Operand} {b j:Nat} {es:List (κ×Int)} (k:κ) {q:Pr} (hT:O6 P T kt et enc) (ho:o.op= .lookup T x y true) (hx:VL E x (is (.map (some b)))) (hy:VL E y q) (hk:∀M w v,q.h M w v→v=enc k):
  F5 P M0 w0 S j (SR.c (G3 enc b es)) o E (FZ [int ((look es k).getD 0),bool (look es k).isSome]):=by
 intro M w a rs he hI hj
 have h1:a.eval x=_:=hx.ev he (by simp [ho,Op.operands])
 have h2:a.eval y=enc k:=hk _ _ _ (hy.ev he (by simp [ho,Op.operands]))
 have hj':rs[j]? =some (G3 enc b es):=hj
 obtain ⟨_,hh⟩:=(hI.hold _ (List.mem_of_getElem? hj')).1
 have hrun:(execOp a.eval o).run P w= .ok (.value (.tuple #[.int .i64 ((look es k).getD 0),.bool (look es k).isSome])) w:=by
  have hf:=Kc hT k w es
  have hg:=D9 (fun p:κ×Int=>decide (k=p.1)) es
  unfold look
  cases HC:es.findIdx? fun p=>decide (k=p.1) with
  |none=>
   rw [HC] at hf hg
   rw [←hg]
   simp only [Option.bind_none] at hf
   simp [execOp,ho,h1,h2,Instr.lookup,run_underlying hT.O7,MapKept.run_getObj_map hh,hT.RL,hf,hT.zero,Result.andThen]
  |some i=>
   rw [HC] at hf hg
   rw [←hg]
   have CS:i<es.length:=by rw [List.findIdx?_eq_some_iff_getElem] at HC;exact HC.1
   simp only [Option.bind_some,List.getElem?_eq_getElem CS,Option.map_some] at hf ⊢
   simp [execOp,ho,h1,h2,Instr.lookup,run_underlying hT.O7,MapKept.run_getObj_map hh,hT.RL,hf,Result.andThen]
 rw [hrun]
 exact ⟨⟨_,rfl,rfl,rfl,trivial⟩,Below.refl _ _⟩
theorem RN {es:List (κ×Int)} {k:κ} {v:Int} (h:(es.findIdx? fun p=>decide (k=p.1))=none):Fh es k v=es++[(k,v)]:=by unfold Fh;rw [h]
theorem RO {es:List (κ×Int)} {k:κ} {v:Int} {i:Nat} (h:(es.findIdx? fun p=>decide (k=p.1))=some i):Fh es k v=es.set i (k,v):=by unfold Fh;rw [h]
theorem Im {T kt et:TypeId} {x y z:Operand} {b j:Nat} {es:List (κ×Int)} {v:Int} (k:κ) {q:Pr} (hT:O6 P T kt et enc) (hg:o.guard=none) (hd:o.dst=none) (ho:o.op= .mapUpdate T x y z) (hx:VL E x (is (.map (some b)))) (hy:VL E y q) (hk:∀M w v,q.h M w v→v=enc k) (hz:VL E z (int v)):
  DH P M0 w0 S n j (SR.c (G3 enc b es)) (SR.c (G3 enc b (Fh es k v))) o E any:=by
 refine ⟨hg,fun M w a rs hsz he hI hj=> ?_⟩
 have h1:a.eval x=_:=hx.ev he (by simp [ho,Op.operands])
 have h2:a.eval y=enc k:=hk _ _ _ (hy.ev he (by simp [ho,Op.operands]))
 have h3:a.eval z=_:=hz.ev he (by simp [ho,Op.operands])
 have hj':rs[j]? =some (G3 enc b es):=hj
 obtain ⟨⟨hM,hh⟩,SB⟩:=hI.hold _ (List.mem_of_getElem? hj')
 have hlt:=(SB b rfl).1
 have hf:=Kc hT k w es
 have hrun:(execOp a.eval o).run P w= .ok .skip (F9 w b (.map (Ed (D0 enc (Fh es k v))) (Fh es k v).length)):=by
  cases HC:es.findIdx? fun p=>decide (k=p.1) with
  |none=>
   rw [HC] at hf
   simp only [Option.bind_none] at hf
   rw [RN HC]
   have hp:Ed (D0 enc (es++[(k,v)]))=(Ed (D0 enc es)).push { key:=enc k,val:= .int .i64 v,born:=es.length }:=by
    have:=Ng (D0 enc es) (enc k) (.int .i64 v)
    rw [List.length_map] at this
    rw [this];simp [D0]
   rw [hp]
   simp [execOp,ho,h1,h2,h3,Instr.mapUpdate,run_underlying hT.O7,MapKept.run_getObj_map hh,hT.RL,hf,MapKept.run_setObj_map _ hh,Result.andThen,F9]
  |some i=>
   have CS:i<es.length:=by rw [List.findIdx?_eq_some_iff_getElem] at HC;exact HC.1
   have fy:(es[i]).1=k:=by
    rw [List.findIdx?_eq_some_iff_getElem] at HC
    obtain ⟨_,h4,_⟩:=HC
    simpa using (of_decide_eq_true h4).symm
   rw [HC] at hf
   simp only [Option.bind_some,List.getElem?_eq_getElem CS,Option.map_some] at hf
   rw [RO HC]
   have hp:Ed (D0 enc (es.set i (k,v)))=(Ed (D0 enc es)).modify i fun e=>{ e with key:=enc k,val:= .int .i64 v }:=by
    rw [Qb (by simpa using CS)];simp [D0]
   have hold:((Ed (D0 enc es))[i]?).map (·.key)=some (enc k):=by
    rw [ER];simp [D0,List.getElem?_eq_getElem CS,fy]
   rw [hp,List.length_set]
   simp [execOp,ho,h1,h2,h3,Instr.mapUpdate,run_underlying hT.O7,MapKept.run_getObj_map hh,hT.RL,hf,hold,Instr.keyThatStays,hT.bits,MapKept.run_setObj_map _ hh,Result.andThen,F9]
 rw [hrun]
 obtain ⟨h5,h6⟩:=Am.VO (obj:= .map (Ed (D0 enc (Fh es k v))) (Fh es k v).length) (r':=G3 enc b (Fh es k v)) hI hj' rfl rfl rfl rfl hM ⟨hM,Jo hlt⟩
 exact ⟨M,trivial,h6,h5⟩
def FM (it b m:Nat) (seen:List Nat):Ao where
 Ee:=some it
 new:=true
 h M w:=(∀o,M it o)∧w.heap[it]? =some (.mapIter (some b) m seen.toArray m)
 st M w M' w' he hk h:=by
  obtain ⟨h1,h2⟩:=hk it rfl
  exact ⟨fun o=>h2 o (h.1 o),h1.trans h.2⟩
theorem TO.range {d j b:Nat} {T kt et:TypeId} {x:Operand} {es:List (κ×Int)} (hT:O6 P T kt et enc) (hg:o.guard=none) (hd:o.dst=some d) (hn:d<n) (ho:o.op= .range T x) (hx:VL E x (is (.map (some b)))) (hj:rs[j]? =some (G3 enc b es))
  (k:∀it,TO P n ops r ((d,ptr it 0)::E) (Hp M0 w0 S (FM it b es.length []::rs)) Q):TO P n ops (o::r) E (Hp M0 w0 S rs) Q:=
 TO.MV hg fun K M w a hsz hdf he hI hK=>by
  have h1:a.eval x=_:=hx.ev (o:=o) (BX he) (by simp [ho,Op.operands])
  obtain ⟨_,hh⟩:=(Am.hold hI _ (List.mem_of_getElem? hj)).1
  refine TO.val (v:= .pointer (some ⟨w.heap.size,0,none⟩)) (w':=w.alloc (.mapIter (some b) es.length #[] es.length)) ?_ ?_
  · simp [execOp,ho,h1,run_range_map w T kt et b _ _ hT.O7 hh]
  ·
   obtain ⟨h2,h3⟩:=Am.VN (obj:= .mapIter (some b) es.length #[] es.length) (r:=FM w.heap.size b es.length []) hI rfl rfl ⟨fun _=> .inr rfl,by rw [heap_alloc_new]⟩
   refine hK _ _ _ _ (k w.heap.size) ⟨_,by rw [BN];exact hsz,by rw [put_defers];exact hdf,?_,h2⟩
   intro s p hp
   simp only [List.lookup] at hp
   by_cases hs:s=d
   · subst hs;simp at hp;subst hp;rw [hd,A_ (by rw [hsz];exact hn)];rfl
   ·
    rw [show (s==d)=false by simpa using hs] at hp
    rw [hd,BD hs]
    exact p.st _ _ _ _ _ h3 (he s p hp)
theorem mem_left {es:List (Value×Value)} {seen:List Nat} {e:MapEntry}:e∈(leftOf (Ed es) seen.toArray).toList↔∃q p,es[q]? =some p∧q∉seen∧e={ key:=p.1,val:=p.2,born:=q }:=by
 unfold leftOf
 rw [Array.toList_filter,List.mem_filter]
 constructor
 ·
  rintro ⟨h1,h2⟩
  obtain ⟨q,hq⟩:=List.mem_iff_getElem?.1 h1
  rw [Array.getElem?_toList,ER] at hq
  cases hp:es[q]? with
  |none=>rw [hp] at hq;cases hq
  |some p=>
   rw [hp] at hq
   simp only [Option.map_some,Option.some.injEq] at hq
   subst hq
   exact ⟨q,p,hp,by simpa using h2,rfl⟩
 ·
  rintro ⟨q,p,hp,hq,rfl⟩
  exact ⟨List.mem_iff_getElem?.2 ⟨q,by rw [Array.getElem?_toList,ER,hp];rfl⟩,by simpa using hq⟩
theorem Hu {w:World} (ty:TypeId) {it b m:Nat} {seen:List Nat} {es:List (Value×Value)} (hm:es.length=m) (hit:w.heap[it]? =some (.mapIter (some b) m seen.toArray m)) (hb:w.heap[b]? =some (.map (Ed es) m)):
  ((∀q,q<m→q∈seen)∧(Instr.next (.pointer (some ⟨it,0,none⟩)) false ty).run P w= .ok (.tuple #[.bool false]) w)∨
  ∃q p,es[q]? =some p∧q∉seen∧∃w1,(w1=w∨w1=w.drew)∧(Instr.next (.pointer (some ⟨it,0,none⟩)) false ty).run P w= .ok (.tuple #[.bool true,p.1,p.2]) (F9 w1 it (.mapIter (some b) m (seen++[q]).toArray m)):=by
 have hold:∀x∈(Ed es).toList,x.born<m:=by
  intro x hx
  obtain ⟨q,hq⟩:=List.mem_iff_getElem?.1 hx
  rw [Array.getElem?_toList,ER] at hq
  cases hp:es[q]? with
  |none=>rw [hp] at hq;cases hq
  |some p=>
   rw [hp] at hq
   simp only [Option.map_some,Option.some.injEq] at hq
   subst hq
   show q<m
   rcases Nat.lt_or_ge q es.length with h|h
   · omega
   · rw [List.getElem?_eq_none h] at hp;cases hp
 simp only [Instr.next,getObj,Sem.run_bind,Sem.run,hit,hb,Result.andThen,next_test_false seen.toArray (Ed es) m m hold (Nat.le_refl _),Bool.false_eq_true,if_false]
 have hleft:(Ed es).filter (fun e=> !seen.toArray.contains e.born)=leftOf (Ed es) seen.toArray:=rfl
 rw [hleft]
 have hmem:∀x∈(leftOf (Ed es) seen.toArray).toList,x.born<m:=fun x hx=>by
  obtain ⟨q,p,h1,_,rfl⟩:=mem_left.1 hx
  rcases Nat.lt_or_ge q es.length with h|h
  · show q<m;omega
  · rw [List.getElem?_eq_none h] at h1;cases h1
 have hml:∀e,e∈(leftOf (Ed es) seen.toArray).toList↔∃q p,es[q]? =some p∧q∉seen∧e={ key:=p.1,val:=p.2,born:=q }:=fun e=>mem_left
 generalize leftOf (Ed es) seen.toArray=L at hmem hml ⊢
 have e1:L.filter (fun x=>decide (x.born<m))=L:=Array.filter_eq_self.2 (fun x hx=>by simpa using hmem x (by simpa using hx))
 have e2:L.filter (fun x=>decide (x.born≥m))= #[]:=by
  rw [Array.filter_eq_empty_iff]
  intro x hx
  have:=hmem x (by simpa using hx)
  simp
  omega
 simp only [e1,e2,Array.append_empty]
 by_cases h0:L.size=0
 ·
  left
  have hL:L= #[]:=Array.eq_empty_of_size_eq_zero h0
  refine ⟨fun q hq=> ?_,?_⟩
  ·
   rcases Classical.em (q∈seen) with h|h
   · exact h
   ·
    have:=(hml { key:=(es[q]'(by omega)).1,val:=(es[q]'(by omega)).2,born:=q }).2 ⟨q,es[q]'(by omega),List.getElem?_eq_getElem (by omega),h,rfl⟩
    rw [hL] at this;simp at this
  ·
   subst hL
   simp [choose,Sem.run,Question.forced]
 ·
  right
  have hne:L.isEmpty=false:=by simp [Array.isEmpty,h0]
  simp only [hne,Bool.false_eq_true,if_false,Array.empty_append,Array.size_map]
  have hch:∃(j:Nat) (w1:World),j<L.size∧(w1=w∨w1=w.drew)∧(choose (Question.mapNext L.size)).run P w= .ok j w1:=by
   by_cases hf:L.size≤1
   · exact ⟨0,w,by omega,.inl rfl,by simp [choose,Sem.run,Question.forced,hf]⟩
   ·
    exact ⟨_, w.drew, Nat.mod_lt _ (by omega), .inr rfl, by
     simp only [choose,Sem.run,Question.forced,decide_eq_true_eq,hf,if_false,Question.cut]
     rfl⟩
  obtain ⟨j,w1,hj,Jp,hrun⟩:=hch
  obtain ⟨q,p,hq1,SN,f_⟩:=(hml L[j]).1 (by simp)
  refine ⟨q,p,hq1,SN,w1,Jp,?_⟩
  have hw1:w1.heap=w.heap:=by rcases Jp with rfl|rfl<;>rfl
  have HH:∀(o':Obj),(setObj it o').run P w1= .ok () (F9 w1 it o'):=fun o'=>by
   have gA:w1.heap[it]? =some (.mapIter (some b) m seen.toArray m):=by rw [hw1];exact hit
   simp only [setObj,Sem.run,gA]
   rfl
  simp only [hrun,Array.getElem?_map,Array.getElem?_eq_getElem hj,Option.map_some,Sem.run_bind,HH,Result.andThen]
  rw [f_]
  simp
omit [DecidableEq κ] in
theorem TO.next {d i j it b:Nat} {x:Operand} {es:List (κ×Int)} {seen:List Nat} (hg:o.guard=none) (hd:o.dst=some d) (hn:d<n) (ho:o.op= .next x false) (hx:VL E x (ptr it 0)) (hi:rs[i]? =some (FM it b es.length seen)) (hj:rs[j]? =some (G3 enc b es))
  (k1:(∀q,q<es.length→q∈seen)→TO P n ops r ((d,FZ [bool false])::E) (Hp M0 w0 S rs) Q)
  (k2:∀q p,es[q]? =some p→q∉seen→TO P n ops r ((d,FZ [bool true,is (enc p.1),int p.2])::E) (Hp M0 w0 S (rs.set i (FM it b es.length (seen++[q])))) Q):TO P n ops (o::r) E (Hp M0 w0 S rs) Q:=
 TO.MV hg fun K M w a hsz hdf he hI hK=>by
  have h1:a.eval x= .pointer (some ⟨it,0,none⟩):=hx.ev (o:=o) (BX he) (by simp [ho,Op.operands])
  obtain ⟨⟨aY,hit⟩,gB⟩:=Am.hold hI _ (List.mem_of_getElem? hi)
  obtain ⟨_,hh⟩:=(Am.hold hI _ (List.mem_of_getElem? hj)).1
  have hlt:=(gB it rfl).1
  rcases Hu (P:=P) o.type (es:=D0 enc es) (by simp [D0]) hit hh with ⟨h2,h3⟩|⟨q,p,h2,h3,w1,h4,h5⟩
  ·
   refine TO.val (v:= .tuple #[.bool false]) (w':=w) ?_ ?_
   · simp [execOp,ho,h1,h3]
   ·
    refine hK _ _ _ _ (k1 h2) ⟨M,by rw [BN];exact hsz,by rw [put_defers];exact hdf,?_,hI⟩
    intro s p hp
    simp only [List.lookup] at hp
    by_cases hs:s=d
    · subst hs;simp at hp;subst hp;rw [hd,A_ (by rw [hsz];exact hn)];exact ⟨_,rfl,rfl,trivial⟩
    ·
     rw [show (s==d)=false by simpa using hs] at hp
     rw [hd,BD hs];exact he s p hp
  ·
   have gC:∃p',es[q]? =some p'∧p=(enc p'.1,.int .i64 p'.2):=by
    simp only [D0,List.getElem?_map] at h2
    cases h:es[q]? with
    |none=>rw [h] at h2;cases h2
    |some p'=>rw [h] at h2;simp at h2;exact ⟨p',rfl,h2.symm⟩
   obtain ⟨p',Le,rfl⟩:=gC
   refine TO.val (v:= .tuple #[.bool true,enc p'.1,.int .i64 p'.2]) (w':=F9 w1 it (.mapIter (some b) es.length (seen++[q]).toArray es.length)) ?_ ?_
   · simp [execOp,ho,h1,h5]
   ·
    have O8:Below w.heap.size w w1:=by
     rcases h4 with rfl|rfl
     · exact Below.refl _ _
     · exact (Below.refl _ _).drew
    have gD:=(Hp M0 w0 S rs).st _ _ _ O8 hI
    obtain ⟨h6,h7⟩:=Am.VO (obj:= .mapIter (some b) es.length (seen++[q]).toArray es.length) (r':=FM it b es.length (seen++[q])) gD hi rfl rfl rfl rfl aY ⟨aY,Jo (Nat.lt_of_lt_of_le hlt O8.size)⟩
    refine hK _ _ _ _ (k2 q p' Le h3) ⟨M,by rw [BN];exact hsz,by rw [put_defers];exact hdf,?_,h6⟩
    intro s p hp
    simp only [List.lookup] at hp
    by_cases hs:s=d
    · subst hs;simp at hp;subst hp;rw [hd,A_ (by rw [hsz];exact hn)];exact ⟨_,rfl,rfl,rfl,rfl,trivial⟩
    ·
     rw [show (s==d)=false by simpa using hs] at hp
     rw [hd,BD hs]
     exact p.st _ _ _ _ _ ((Ext.below O8).trans h7) (he s p hp)
omit [DecidableEq κ] in
theorem TO.entry {d i j it b q:Nat} {x:Operand} {es:List (κ×Int)} {seen:List Nat} {p:κ×Int} (hg:o.guard=none) (hd:o.dst=some d) (hn:d<n) (ho:o.op= .entry x) (hx:VL E x (ptr it 0)) (hi:rs[i]? =some (FM it b es.length (seen++[q]))) (hj:rs[j]? =some (G3 enc b es)) (hq:es[q]? =some p)
  (k:TO P n ops r ((d,FZ [is (enc p.1),int p.2])::E) (Hp M0 w0 S rs) Q):TO P n ops (o::r) E (Hp M0 w0 S rs) Q:=
 TO.MV hg fun K M w a hsz hdf he hI hK=>by
  have h1:a.eval x= .pointer (some ⟨it,0,none⟩):=hx.ev (o:=o) (BX he) (by simp [ho,Op.operands])
  obtain ⟨⟨_,hit⟩,_⟩:=Am.hold hI _ (List.mem_of_getElem? hi)
  obtain ⟨_,hh⟩:=(Am.hold hI _ (List.mem_of_getElem? hj)).1
  have Se:(Ed (D0 enc es))[q]? =some { key:=enc p.1,val:= .int .i64 p.2,born:=q }:=by rw [ER];simp [D0,hq]
  have hnd:((Ed (D0 enc es)).toList.map (·.born)).Nodup:=by
   have:(Ed (D0 enc es)).toList.map (·.born)=List.range (D0 enc es).length:=by
    apply List.ext_getElem?
    intro k
    rw [List.getElem?_map,Array.getElem?_toList,ER]
    by_cases hk:k<(D0 enc es).length
    · rw [List.getElem?_range hk,List.getElem?_eq_getElem hk];rfl
    · rw [List.getElem?_eq_none (Nat.le_of_not_lt hk),List.getElem?_eq_none (by simp at hk ⊢;omega)];rfl
   rw [this];exact List.nodup_range
  have hfind:(Ed (D0 enc es)).find? (fun e=>e.born==q)=some { key:=enc p.1,val:= .int .i64 p.2,born:=q }:=by
   rw [←Array.find?_toList]
   exact find_born { key:=enc p.1,val:= .int .i64 p.2,born:=q } _ hnd (List.mem_iff_getElem?.2 ⟨q,by rw [Array.getElem?_toList];exact Se⟩)
  refine TO.val (v:= .tuple #[enc p.1,.int .i64 p.2]) (w':=w) ?_ ?_
  ·
   have:(Instr.entry (.pointer (some ⟨it,0,none⟩))).run P w= .ok (.tuple #[enc p.1,.int .i64 p.2]) w:=by
    have hb:(seen++[q]).toArray.back? =some q:=by simp
    simp only [Instr.entry,getObj,Sem.run_bind,Sem.run,hit,hh,Result.andThen,hb,bne_self_eq_false,Bool.false_eq_true,if_false,hfind]
    rfl
   simp [execOp,ho,h1,this]
  ·
   refine hK _ _ _ _ k ⟨M,by rw [BN];exact hsz,by rw [put_defers];exact hdf,?_,hI⟩
   intro s p hp
   simp only [List.lookup] at hp
   by_cases hs:s=d
   · subst hs;simp at hp;subst hp;rw [hd,A_ (by rw [hsz];exact hn)];exact ⟨_,rfl,rfl,rfl,trivial⟩
   ·
    rw [show (s==d)=false by simpa using hs] at hp
    rw [hd,BD hs];exact he s p hp
end
section
variable {P:Program} {L:Lg P}
def aZ (P:Program) (e:Bool) (d:Nat) (cs:Array Value):List Field→Prop
 |[]=>True
 |f::fs=>(∃v,(∀w,(part f.type cs f.offset).run P w= .ok v w)∧∀w,(Instr.checkKey e d f.type v).run P w= .ok () w)∧aZ P e d cs fs
theorem Mn {t:TypeId} {k:IntKind} {e:Bool} {d:Nat} {v:Value} (ht:P.underlying t=some (.int k)) (w:World):(Instr.checkKey e (d+1) t v).run P w= .ok () w:=by
 simp [Instr.checkKey,run_underlying ht]
theorem gE {t:TypeId} {fs:Array Field} {e:Bool} {d:Nat} {cs:Array Value} (ht:P.underlying t=some (.struct fs)) (h:aZ P e d cs fs.toList) (w:World):(Instr.checkKey e (d+1) t (.agg cs)).run P w= .ok () w:=by
 simp only [Instr.checkKey,Sem.run_bind,run_underlying ht,Result.andThen_ok]
 rw [←Array.forIn_toList]
 clear ht
 generalize fs.toList=l at h ⊢
 induction l with
 |nil=>simp
 |cons f fs ih=>
  obtain ⟨⟨v,h1,h2⟩,h3⟩:=h
  simp only [List.forIn_cons,Sem.run_bind,Sem.run_ite]
  split
  ·
   simp only [Sem.run_bind,h1,h2,Result.andThen_ok,Sem.run_pure]
   exact ih h3
  ·
   simp only [Sem.run_pure,Result.andThen_ok]
   exact ih h3
end
section
variable {P:Program} {L:Lg P} {n:Fm} {fz:Nat} {E:Env} {M0:Av} {w0:World} {S:Nat→Prop} {rs:List Ao} {o:Oper}
theorem Jb (w:World) (A:Option Addr) (t ty e:TypeId) (i:TypeInfo) (z:Value) (ht:P.underlying t=some (.slice e)) (hi:P.info? e=some i) (hz:i.zero=some z)
  (a:Addr) (n c:Nat) (news:List Value) (hl:news.length=n*i.size) (hnews:∀j v,news[j]? =some v→w.cell? (a.add j)=some v)
  (h0:0<n) (h63:(n:Int)≤9223372036854775807) (h48:n*i.bytes≤281474976710656):
  (Builtin.append_ #[t, t] ty #[.slice A 0 0, .slice (some a) n c]).run P w =
   .ok (.slice (some ⟨w.heap.size,0,none⟩) n (grownCap w n 0 e)) (w.drew.alloc (.cells (news.toArray++Builtin.zeroCells z.cells (grownCap w n 0 e-n)) e)):=by
 cases A with
 |none=>exact run_append_nil (w:=w) t ty e i z ht hi hz a n c news hl hnews h0 h63 h48
 |some b=>
  have:=run_append_grow (w:=w) t ty e i z ht hi hz b 0 0 [] (by simp) (by simp) a n c news hl hnews (by omega) (by simpa using h63) (by rw [Nat.zero_add,nextslicecap_zero h0];exact h48)
  simpa using this
theorem Ni {M:Av} {w:World} {t ty e:TypeId} {sz bytes:Nat} {zs:List Value} {rows:List (List Pr)} {u:Value} {j:Nat} (A:Option Addr) (ht:P.underlying t=some (.slice e)) (hz:Ax P e=some sz) (hby:Bx P e=some bytes) (C1:Bb P e=some zs) (hzl:zs.length=sz) (hone:zs.all (·.oneCell')=true) (hsz:0<sz)
  (h:Am M0 w0 S rs M w) (hj:rs[j]? =some BT) (hu:(slice sz rows).h M w u) (hpos:0<rows.length) (CY:rows.length≤maxLen) (hfit:rows.length*bytes≤140737488355328):
  ∃v' w' M',(Builtin.append_ #[t,t] ty #[.slice A 0 0,u]).run P w= .ok v' w'∧(lens rows.length).h M' w' v'∧Ext M w M' w'∧Am M0 w0 S (rs.set j (E6 e sz rows v')) M' w':=by
 unfold Ax at hz
 unfold Bx at hby
 unfold Bb at C1
 cases hi:P.info? e with
 |none=>rw [hi] at hz;cases hz
 |some i=>
  rw [hi] at hz hby C1
  simp only [Option.map_some,Option.some.injEq,Option.map_eq_some_iff] at hz hby C1
  obtain ⟨z,QM,C1⟩:=C1
  have SW:z.cells.size=sz:=by rw [←hzl,←C1];simp
  obtain ⟨A',c',rfl,U5,MY,SX,C6⟩:=hu
  have JX:(slice sz rows).h M w (.slice A' rows.length c'):=⟨A',c',rfl,U5,MY,SX,C6⟩
  obtain ⟨Ie,rfl⟩:∃Ie,A'=some Ie:=by
   obtain ⟨_,b,hb,_⟩:=C6 0 _ (List.getElem?_eq_getElem hpos)
   exact ⟨b,hb⟩
  obtain ⟨news,hfl,hcell⟩:=C5 hsz JX
  have hrun:=Jb (P:=P) w A t ty e i z ht hi QM Ie rows.length c' news (by rw [hz];exact hfl.1) (fun k u hk=>(hcell k u hk).1) hpos (by unfold maxLen at CY;omega) (by rw [hby];omega)
  generalize hcap:grownCap w rows.length 0 e=cap at hrun
  have hge:rows.length≤cap:=by rw [←hcap];exact grownCap_ge _ _ _ _
  have hle:cap≤maxLen:=by rw [←hcap];exact grownCap_le_maxLen _ _ _ _ CY
  generalize LX:Builtin.zeroCells z.cells (cap-rows.length)=zc at hrun
  have hzs:zc.size=(cap-rows.length)*sz:=by rw [←LX,size_zeroCells,SW]
  have aU:∀c∈zc.toList,c.oneCell'=true:=by rw [←LX];exact Cz C1 hone
  have hb:Below w.heap.size w (w.drew.alloc (.cells (news.toArray++zc) e)):=((Below.refl _ _).drew).alloc (Nat.le_refl _) _
  have h2:=Ext.below (M:=M) hb
  have Dv:Ext M w (fun b o=>M b o∨b=w.heap.size) (w.drew.alloc (.cells (news.toArray++zc) e)):=by
   refine ⟨h2.size,fun a v hc hm=>⟨fun hx=> ?_,(h2.keep a v hc hm).2⟩,fun b o ho hp hm=>⟨fun hx=> ?_,(h2.obj b o ho hp hm).2⟩⟩
   ·
    rcases hx with hx|hx
    · exact hm hx
    · have:=C0 hc;omega
   ·
    rcases hx with hx|hx
    · exact hm hx
    · subst hx;simp at ho
  have hs1:(w.drew.alloc (.cells (news.toArray++zc) e)).heap.size=w.heap.size+1:=by simp
  refine ⟨_,_,fun b o=>M b o∨b=w.heap.size,hrun,⟨_,_,rfl⟩,Dv,?_⟩
  refine h.replace hj Dv hb.os hb.tape hb.output (fun k hk _=>hb.block k hk) rfl (fun b o hm _=> .inl hm) (fun b o hx=> ?_) ?_ rfl (fun b hbk=> ?_)
  ·
   rcases hx with hx|hx
   · have:=h.bd _ _ hx;omega
   · omega
  ·
   refine ⟨w.heap.size,cap,zc.toList,rfl,hge,hle,by simpa using hzs,fun o=> .inr rfl,news++zc.toList,?_,?_,?_⟩
   ·
    have hh:(w.drew.alloc (.cells (news.toArray++zc) e)).heap[w.heap.size]? =some (.cells (news.toArray++zc) e (0,0)):=heap_alloc_new w.drew _
    rw [hh];simp
   · exact ((hfl.st Dv).hl hsz).app (JD _ _ _)
   ·
    intro c hc
    rcases List.mem_append.1 hc with hc|hc
    · exact hfl.2.1 c hc
    · exact aU c hc
  ·
   have DN:some w.heap.size=some b:=hbk
   injection DN with e1
   subst e1
   exact ⟨by rw [hs1];omega,.inr (Nat.le_refl _)⟩
theorem Ke {t e:TypeId} {x y:Operand} {sz':Nat} {sz bytes d:Nat} {zs:List Value} {rows:List (List Pr)} {j:Nat} (hg:o.guard=none) (hd:o.dst=some d) (hn:d<n) (ho:o.op= .call { callee:= .builtin .append,args:= #[x,y],argTypes:= #[t,t] })
  (ht:P.underlying t=some (.slice e)) (hz:Ax P e=some sz) (hby:Bx P e=some bytes) (C1:Bb P e=some zs) (hzl:zs.length=sz) (hone:zs.all (·.oneCell')=true) (hsz:0<sz)
  (hx:VL E x (full sz' [])) (hy:VL E y (slice sz rows)) (hpos:0<rows.length) (CY:rows.length≤maxLen) (hfit:rows.length*bytes≤140737488355328):DH P M0 w0 S n j (SR.c BT) ⟨d,E6 e sz rows⟩ o E (lens rows.length):=by
 refine ⟨hg,fun M w a rs Hh he hI hj=> ?_⟩
 have h2:=hy.ev he (by simp [ho,Op.operands,Call.operands])
 obtain ⟨_,A,h1⟩:=hx.ev he (by simp [ho,Op.operands,Call.operands])
 simp only [List.length_nil] at h1
 obtain ⟨v',w',M',hrun,h3,h4,h5⟩:=Ni A (ty:=o.type) ht hz hby C1 hzl hone hsz hI hj h2 hpos CY hfit
 have CZ:(execOp a.eval o).run P w= .ok (.value v') w':=by simp [execOp,ho,resolve,invoke,builtin,h1,hrun]
 rw [CZ]
 refine ⟨M',h3,h4,?_⟩
 have:(SR.at_ (a.put o.dst v') ⟨d,E6 e sz rows⟩)=E6 e sz rows v':=by unfold SR.at_ Slot.val;dsimp only;rw [hd,A_ (by rw [Hh];exact hn)]
 rw [this];exact h5
theorem Hv {I:B5} {t e:TypeId} {x:Operand} {A:Option Addr} {m cap:Nat} (ho:o.op= .call { callee:= .builtin .len,args:= #[x],argTypes:= #[t] }) (ht:P.underlying t=some (.slice e)) (hx:VL E x (is (.slice A m cap))):AS P I o E (int m):=
 AS.same fun M w a he _=>by
  have h1:a.eval x=_:=hx.ev he (by simp [ho,Op.operands,Call.operands])
  exact ⟨.int .i64 m,by simp [execOp,ho,resolve,invoke,builtin,Builtin.len_,h1,run_underlying ht,goInt],rfl⟩
theorem JM {I:B5} {t e:TypeId} {x y:Operand} {k:IntKind} {h:Int} {sz b m cap:Nat} (ho:o.op= .slice t x none (some y) none) (ht:P.underlying t=some (.slice e)) (hz:Ax P e=some sz) (hx:VL E x (is (.slice (some ⟨b,0,none⟩) m cap))) (hy:VL E y (is (.int k h))) (h0:0≤h) (hl:h≤m) (hc:m≤cap) (jc:0<cap):
  AS P I o E (is (.slice (some ⟨b,0,none⟩) h.toNat cap)):=
 AS.same fun M w a he _=>by
  have h1:a.eval x=_:=hx.ev he (by simp [ho,Op.operands])
  have h3:a.eval y=_:=hy.ev he (by simp [ho,Op.operands])
  have hb:h≤(cap:Int):=by omega
  refine ⟨_,?_,rfl⟩
  simp [execOp,ho,h1,h3,Instr.sliceAt,Instr.slice,run_underlying ht,Instr.sliceBounds,Instr.sliceBound,asIntOf,h0,hb,BZ hz]
  intro _;rfl
theorem BU {I:B5} {t e:TypeId} {x y:Operand} {k:IntKind} {l:Int} {sz b m cap:Nat} (ho:o.op= .slice t x (some y) none none) (ht:P.underlying t=some (.slice e)) (hz:Ax P e=some sz) (hx:VL E x (is (.slice (some ⟨b,0,none⟩) m cap))) (hy:VL E y (is (.int k l))) (h0:0≤l) (hl:l<m) (hc:m≤cap):
  AS P I o E (is (.slice (some ⟨b,l.toNat*sz,none⟩) (m-l.toNat) (cap-l.toNat))):=
 AS.same fun M w a he _=>by
  have h1:a.eval x=_:=hx.ev he (by simp [ho,Op.operands])
  have h3:a.eval y=_:=hy.ev he (by simp [ho,Op.operands])
  have hb:l≤(m:Int):=by omega
  have hne:¬cap=l.toNat:=by omega
  refine ⟨_,?_,rfl⟩
  simp [execOp,ho,h1,h3,Instr.sliceAt,Instr.slice,run_underlying ht,Instr.sliceBounds,Instr.sliceBound,asIntOf,h0,hb,BZ hz,hne,CH]
theorem Kg {β:Type} {f:β→List Pr} {l:List β} {qs:List Pr} {sz:Nat} (hf:∀x,(f x).length=sz) {i:Nat} {x:β} (h:l[i]? =some x):((((l.map f).flatten++qs).drop (i*sz)).take sz)=f x:=by
 have hl:∀r∈l.map f,r.length=sz:=fun r hr=>by obtain ⟨y,_,rfl⟩:=List.mem_map.1 hr;exact hf y
 have hi:i<l.length:=by rcases Nat.lt_or_ge i l.length with h'|h';exact h';rw [List.getElem?_eq_none h'] at h;cases h
 have hfl:=Bu hl
 rw [List.length_map] at hfl
 have hle:(i+1)*sz≤l.length*sz:=Nat.mul_le_mul_right sz hi
 rw [Nat.add_mul,Nat.one_mul] at hle
 apply List.ext_getElem?
 intro k
 rw [List.getElem?_take]
 split
 ·
  rename_i hk
  rw [List.getElem?_drop,List.getElem?_append_left (by rw [hfl];omega),Ff hl (by rw [List.getElem?_map,h];rfl) hk]
 ·
  rename_i hk
  rw [List.getElem?_eq_none (by rw [hf];omega)]
theorem Io {β:Type} {f:β→List Pr} {sz:Nat} (hf:∀x,(f x).length=sz):∀{l:List β} {qs:List Pr} {i:Nat} {x:β},i<l.length→((l.map f).flatten++qs).take (i*sz)++f x++((l.map f).flatten++qs).drop (i*sz+sz)=((l.set i x).map f).flatten++qs
 |[],_,_,_,h=>by simp at h
 |a::l,qs,0,x,_=>by
  simp only [List.map_cons,List.flatten_cons,Nat.zero_mul,List.take_zero,List.nil_append,Nat.zero_add,List.set_cons_zero]
  rw [←hf a,List.append_assoc,List.drop_left,List.append_assoc]
 |a::l,qs,i+1,x,h=>by
  have ih:=Io hf (l:=l) (qs:=qs) (i:=i) (x:=x) (by simpa using h)
  simp only [List.map_cons,List.flatten_cons,List.set_cons_succ]
  have e1:(i+1)*sz=(f a).length+i*sz:=by rw [hf a,Nat.add_mul];omega
  rw [List.append_assoc,List.append_assoc,e1,List.take_append,List.take_of_length_le (by omega),show (f a).length+i*sz-(f a).length=i*sz by omega,show (f a).length+i*sz+sz=(f a).length+(i*sz+sz) by omega,List.drop_append,List.drop_of_length_le (by omega),show (f a).length+(i*sz+sz)-(f a).length=i*sz+sz by omega,List.nil_append,List.append_assoc (f a) _ qs,←ih]
  simp only [List.append_assoc]
theorem A4 {β:Type} {f:β→List Pr} {l:List β} {qs:List Pr} {sz:Nat} (hf:∀x,(f x).length=sz):((l.map f).flatten++qs).length=l.length*sz+qs.length:=by
 rw [List.length_append,Bu (sz:=sz) (fun r hr=>by obtain ⟨y,_,rfl⟩:=List.mem_map.1 hr;exact hf y),List.length_map]
theorem Aj {β:Type} {f:β→List Pr} {l:List β} {sz:Nat} (hf:∀x,(f x).length=sz):∀r∈l.map f,r.length=sz:=fun r hr=>by obtain ⟨y,_,rfl⟩:=List.mem_map.1 hr;exact hf y
theorem St.O9 {b cap sz:Nat} {e:TypeId} {rows:List (List Pr)} {qs:List Pr} (j d:Nat) {p:Pr} (hj:rs[j]? =some (AA true b e (rows.flatten++qs))) (hd:E.lookup d=some p) (hp:Pr.le p (is (.slice (some ⟨b,0,none⟩) rows.length cap)))
  (hl:∀r∈rows,r.length=sz) (hc:rows.length≤cap) (hm:cap≤maxLen) (hq:qs.length=(cap-rows.length)*sz)
  {a:Act} {w:World} (h:St n E (Hp M0 w0 S rs) a w):St n ((d,Aq (.slice (some ⟨b,0,none⟩) rows.length cap) (slice sz rows))::E) (Hp M0 w0 S (rs.set j (BR e sz (.slice (some ⟨b,0,none⟩) rows.length cap)))) a w:=by
 obtain ⟨M,h1,h2,h3,h4⟩:=h
 obtain ⟨M',h5,h6,h7⟩:=Am.dz h4 hj hl hc hm hq
 refine ⟨M',h1,h2,fun s q hs=> ?_,h6⟩
 simp only [List.lookup] at hs
 split at hs
 ·
  rename_i e1
  have:s=d:=by simpa using e1
  subst this
  simp only [Option.some.injEq] at hs
  subst hs
  have h8:=hp _ _ _ (h3 _ _ hd)
  exact ⟨h8,by rw [show a.tmps.getD s undef=_ from h8];exact h7⟩
 · exact q.st _ _ _ _ _ h5 (h3 s q hs)
theorem Tr.O9 {Q:Exit→Act→World→Prop} {c:Code} {b cap sz:Nat} {e:TypeId} (rows:List (List Pr)) {qs:List Pr} (j d:Nat) {p:Pr} (hj:rs[j]? =some (AA true b e (rows.flatten++qs))) (hd:E.lookup d=some p) (hp:Pr.le p (is (.slice (some ⟨b,0,none⟩) rows.length cap)))
  (hl:∀r∈rows,r.length=sz) (hc:rows.length≤cap) (hm:cap≤maxLen) (hq:qs.length=(cap-rows.length)*sz)
  (k:Tr L n ((d,Aq (.slice (some ⟨b,0,none⟩) rows.length cap) (slice sz rows))::E) (Hp M0 w0 S (rs.set j (BR e sz (.slice (some ⟨b,0,none⟩) rows.length cap)))) c Q):Tr L n E (Hp M0 w0 S rs) c Q:=
 Tr.conv (fun _ _ hs=>hs.O9 j d hj hd hp hl hc hm hq) k
theorem Fin.O9 {Q:Exit→Act→World→Prop} {x:Exit} {b cap sz:Nat} {e:TypeId} (rows:List (List Pr)) {qs:List Pr} (j d:Nat) {p:Pr} (hj:rs[j]? =some (AA true b e (rows.flatten++qs))) (hd:E.lookup d=some p) (hp:Pr.le p (is (.slice (some ⟨b,0,none⟩) rows.length cap)))
  (hl:∀r∈rows,r.length=sz) (hc:rows.length≤cap) (hm:cap≤maxLen) (hq:qs.length=(cap-rows.length)*sz)
  (k:Fin n ((d,Aq (.slice (some ⟨b,0,none⟩) rows.length cap) (slice sz rows))::E) (Hp M0 w0 S (rs.set j (BR e sz (.slice (some ⟨b,0,none⟩) rows.length cap)))) Q x):Fin n E (Hp M0 w0 S rs) Q x:=
 Fin.conv (fun _ _ hs=>hs.O9 j d hj hd hp hl hc hm hq) k
end
section
variable {P:Program} {L:Lg P} {n:Fm} {fz:Nat} {E:Env} {M0:Av} {w0:World} {S:Nat→Prop} {rs:List Ao} {o:Oper} {g:Func} {M1:Av} {w1:World}
theorem FN {β:Type} {f:β→List Pr} {l:List β} {qs:List Pr} (hf:∀x,(f x).length=1) {i:Int} {x:β} {p:Pr} (h:l[i.toNat]? =some x) (hp:f x=[p]):((l.map f).flatten++qs)[0+i.toNat*1]? =some p:=by
 have hl:∀r∈l.map f,r.length=1:=Aj hf
 have hi:i.toNat<l.length:=by rcases Nat.lt_or_ge i.toNat l.length with h'|h';exact h';rw [List.getElem?_eq_none h'] at h;cases h
 have hfl:=Bu hl
 rw [List.length_map] at hfl
 rw [Nat.zero_add,List.getElem?_append_left (by rw [hfl];omega),show i.toNat*1=i.toNat*1+0 by omega,Ff hl (by rw [List.getElem?_map,h];rfl) (by omega),hp];rfl
theorem Fin.Xq {Q:Exit→Act→World→Prop} {x:Exit} (s j:Nat) {v:Value} {f:Value→Ao} (g:Nat→Ao) (hs:E.lookup s=some (Aq v (Cp.ex fun b=>ptr b 0))) (hi:rs[j]? =some (f v)) (hf:∀b,f (.pointer (some ⟨b,0,none⟩))=g b)
  (k:∀b,Fin n ((s,ptr b 0)::E) (Hp M0 w0 S (rs.set j (g b))) Q x):Fin n E (Hp M0 w0 S rs) Q x:=by
 intro a w hst
 obtain ⟨M,h1,h2,he,h4⟩:=hst
 obtain ⟨h5,b,h6⟩:=he s _ hs
 have hv:v= .pointer (some ⟨b,0,none⟩):=by rw [←h5];exact h6
 have hj:rs.set j (g b)=rs:=by
  have hjl:j<rs.length:=by rcases Nat.lt_or_ge j rs.length with h|h;exact h;rw [List.getElem?_eq_none h] at hi;cases hi
  rw [←hf b,←hv]
  rw [List.getElem?_eq_getElem hjl] at hi
  simp at hi
  rw [←hi,List.set_getElem_self]
 refine k b a w ⟨M,h1,h2,?_,by rw [hj];exact h4⟩
 intro t q hq
 simp only [List.lookup] at hq
 by_cases ht:t=s
 · subst ht;simp at hq;subst hq;exact h6
 · rw [show (t==s)=false by simpa using ht] at hq;exact he t q hq
end
section
variable {P:Program} {L:Lg P} {n:Fm} {fz:Nat} {E:Env} {M0:Av} {w0:World} {S:Nat→Prop} {rs:List Ao} {o:Oper}
def Al (e:TypeId) (sz:Nat) (rows:List (List Pr)) (v:Value):Ao where
 Ee:=match v with| .slice (some a) _ _=>some a.block|_=>none
 new:=true
 h M w:=(rows=[]∧v= .slice none 0 0)∨(E6 e sz rows v).h M w
 st M w M' w' he hk h:=h.imp id fun h=>(E6 e sz rows v).st M w M' w' he hk h
theorem Tr.Mo {Q:Exit→Act→World→Prop} {c:Code} (e:TypeId) (sz:Nat) (k:Tr L n E (Hp M0 w0 S (Al e sz [] (.slice none 0 0)::rs)) c Q):Tr L n E (Hp M0 w0 S rs) c Q:=
 Tr.conv (fun _ _ ⟨M,h1,h2,h3,h4⟩=>⟨M,h1,h2,h3,Am.Ja h4 (r:=Al e sz [] (.slice none 0 0)) rfl (Or.inl ⟨rfl,rfl⟩)⟩) k
theorem Qc {M:Av} {w:World} {t ty e:TypeId} {sz bytes:Nat} {zs:List Value} {rows AV:List (List Pr)} {v u:Value} {j:Nat} (ht:P.underlying t=some (.slice e)) (hz:Ax P e=some sz) (hby:Bx P e=some bytes) (C1:Bb P e=some zs) (hzl:zs.length=sz) (hone:zs.all (·.oneCell')=true) (hsz:0<sz)
  (h:Am M0 w0 S rs M w) (hj:rs[j]? =some (Al e sz rows v)) (hl:∀r∈rows,r.length=sz) (hu:(slice sz AV).h M w u) (hpos:0<AV.length) (CY:rows.length+AV.length≤maxLen) (hfit:(rows.length+AV.length)*bytes≤140737488355328):
  ∃v' w' M',(Builtin.append_ #[t,t] ty #[v,u]).run P w= .ok v' w'∧(lens (rows.length+AV.length)).h M' w' v'∧Ext M w M' w'∧Am M0 w0 S (rs.set j (Al e sz (rows++AV) v')) M' w':=by
 have hjl:j<rs.length:=by rcases Nat.lt_or_ge j rs.length with h|h;exact h;rw [List.getElem?_eq_none h] at hj;cases hj
 rcases (h.hold _ (List.mem_of_getElem? hj)).1 with ⟨rfl,rfl⟩|Mp
 ·
  have h1:=h.Bt (r':=BT) hj rfl rfl trivial
  have YG:(rs.set j BT)[j]? =some BT:=List.getElem?_set_self hjl
  obtain ⟨v',w',M',hrun,h2,h3,h4⟩:=VK (ty:=ty) ht hz hby C1 hzl hone hsz h1 YG hu hpos (by simpa using CY) (by simpa using hfit)
  rw [List.set_set] at h4
  have h5:=h4.Bt (r':=Al e sz ([]++AV) v') (List.getElem?_set_self hjl) rfl rfl (.inr (h4.hold _ (List.mem_of_getElem? (List.getElem?_set_self hjl))).1)
  rw [List.set_set] at h5
  exact ⟨v',w',M',hrun,by simpa using h2,h3,h5⟩
 ·
  obtain ⟨b,cap,spare,rfl,hnc,hcm,hsp,O_⟩:=Mp
  have hC:=h.Bt (r':=AA true b e (rows.flatten++spare.map is)) hj rfl rfl O_
  have eB:(rs.set j (AA true b e (rows.flatten++spare.map is)))[j]? =some (AA true b e (rows.flatten++spare.map is)):=List.getElem?_set_self hjl
  obtain ⟨⟨nN,cs,XF,hcs,Nj⟩,SB⟩:=hC.hold _ (List.mem_of_getElem? eB)
  have hfl:=Bu hl
  have W4:=hcs.length
  rw [List.length_append,hfl,List.length_map,hsp,←Nat.add_mul,show rows.length+(cap-rows.length)=cap by omega] at W4
  unfold Ax at hz
  unfold Bx at hby
  unfold Bb at C1
  cases hi:P.info? e with
  |none=>rw [hi] at hz;cases hz
  |some i=>
   rw [hi] at hz hby C1
   simp only [Option.map_some,Option.some.injEq,Option.map_eq_some_iff] at hz hby C1
   obtain ⟨z,QM,C1⟩:=C1
   have SW:z.cells.size=sz:=by rw [←hzl,←C1];simp
   obtain ⟨A',c',rfl,U5,MY,SX,C6⟩:=hu
   have JX:(slice sz AV).h M w (.slice A' AV.length c'):=⟨A',c',rfl,U5,MY,SX,C6⟩
   obtain ⟨Ie,rfl⟩:∃Ie,A'=some Ie:=by
    obtain ⟨_,b,hb,_⟩:=C6 0 _ (List.getElem?_eq_getElem hpos)
    exact ⟨b,hb⟩
   obtain ⟨news,Lp,hcell⟩:=C5 hsz JX
   have SF:=Lp.1
   have hnews:=Lp.hl hsz
   have hT:HL M w rows.flatten (cs.take (rows.length*sz)):=by
    have:=hcs.take (rows.length*sz)
    rwa [←hfl,List.take_left,hfl] at this
   have hne:(.slice (some ⟨b,0,none⟩) (rows++AV).length cap:Value)= .slice (some ⟨b,0,none⟩) (rows.length+AV.length) cap:=by rw [List.length_append]
   by_cases hroom:rows.length+AV.length≤cap
   ·
    have hle:(rows.length+AV.length)*sz≤cap*sz:=Nat.mul_le_mul_right sz hroom
    rw [Nat.add_mul] at hle
    have hrun:=run_append_room (P:=P) (w:=w) t ty e i ht hi b rows.length cap cs.toArray XF Ie AV.length c' news (by rw [hz];exact SF) (fun k u hk=>(hcell k u hk).1) Lp.2.1 hroom (by rw [hz,SF];simp;omega)
    rw [hz,SF] at hrun
    have hD:HL M w ((spare.drop (AV.length*sz)).map is) (cs.drop (rows.length*sz+AV.length*sz)):=by
     have:=hcs.drop (rows.length*sz+AV.length*sz)
     have e1:(rows.flatten++spare.map is).drop (rows.length*sz+AV.length*sz)=(spare.drop (AV.length*sz)).map is:=by rw [←hfl,←List.drop_drop,List.drop_left,List.map_drop]
     rwa [e1] at this
    obtain ⟨hW,hX⟩:=Am.write (qs:=rows.flatten++AV.flatten++(spare.drop (AV.length*sz)).map is) (cs:=cs.take (rows.length*sz)++news++cs.drop (rows.length*sz+AV.length*sz)) hC eB ((hT.app hnews).app hD) (fun c hc=>by
     simp only [List.mem_append] at hc
     rcases hc with (hc|hc)|hc
     · exact Nj c (List.mem_of_mem_take hc)
     · exact Lp.2.1 c hc
     · exact Nj c (List.mem_of_mem_drop hc))
    rw [List.set_set] at hW
    refine ⟨_,_,M,hrun,⟨_,_,rfl⟩,hX,?_⟩
    have jd := hW.Bt (r' := Al e sz (rows ++ AV) (.slice (some ⟨b, 0, none⟩) (rows.length + AV.length) cap)) (List.getElem?_set_self hjl) rfl rfl (.inr ⟨b, cap, spare.drop (AV.length * sz), hne.symm, by rw [List.length_append]; exact hroom, hcm, by
     rw [List.length_drop,hsp,List.length_append,←Nat.sub_mul];congr 1;omega,by
     rw [List.flatten_append];exact (hW.hold _ (List.mem_of_getElem? (List.getElem?_set_self hjl))).1⟩)
    rw [List.set_set] at jd
    exact jd
   ·
    have hg:cap<rows.length+AV.length:=by omega
    have holds:∀k u,(cs.take (rows.length*sz))[k]? =some u→w.cell? ((⟨b,0,none⟩:Addr).add k)=some u:=by
     intro k u hk
     have hk2:cs[k]? =some u:=by
      rw [List.getElem?_take] at hk
      split at hk
      · exact hk
      · cases hk
     rw [CH]
     simp [World.cell?,XF,hk2]
    have hto:(cs.take (rows.length*sz)).length=rows.length*sz:=by rw [List.length_take,W4];exact Nat.min_eq_left (Nat.mul_le_mul_right sz hnc)
    have hrun:=run_append_grow (P:=P) (w:=w) t ty e i z ht hi QM ⟨b,0,none⟩ rows.length cap (cs.take (rows.length*sz)) (by rw [hz];exact hto) holds Ie AV.length c' news (by rw [hz];exact SF) (fun k u hk=>(hcell k u hk).1) hg (by unfold maxLen at CY;omega) (by rw [hby];exact growslice_fits hg hfit)
    generalize hcap:grownCap w (rows.length+AV.length) cap e=cap' at hrun
    have hge:rows.length+AV.length≤cap':=by rw [←hcap];exact grownCap_ge _ _ _ _
    have hle:cap'≤maxLen:=by rw [←hcap];exact grownCap_le_maxLen _ _ _ _ CY
    generalize LX:Builtin.zeroCells z.cells (cap'-(rows.length+AV.length))=zc at hrun
    have hzs:zc.size=(cap'-(rows.length+AV.length))*sz:=by rw [←LX,size_zeroCells,SW]
    have aU:∀c∈zc.toList,c.oneCell'=true:=by rw [←LX];exact Cz C1 hone
    generalize YH:((cs.take (rows.length*sz)).toArray++news.toArray++zc)=arr at hrun
    have FC:arr.toList=cs.take (rows.length*sz)++news++zc.toList:=by rw [←YH];simp
    have hb:Below w.heap.size w (w.drew.alloc (.cells arr e)):=((Below.refl _ _).drew).alloc (Nat.le_refl _) _
    have h2:=Ext.below (M:=M) hb
    have Dv:Ext M w (fun b o=>M b o∨b=w.heap.size) (w.drew.alloc (.cells arr e)):=by
     refine ⟨h2.size,fun a v hc hm=>⟨fun hx=> ?_,(h2.keep a v hc hm).2⟩,fun b o ho hp hm=>⟨fun hx=> ?_,(h2.obj b o ho hp hm).2⟩⟩
     ·
      rcases hx with hx|hx
      · exact hm hx
      · have:=C0 hc;omega
     ·
      rcases hx with hx|hx
      · exact hm hx
      · subst hx;simp at ho
    have hs1:(w.drew.alloc (.cells arr e)).heap.size=w.heap.size+1:=by simp
    refine ⟨_,_,fun b o=>M b o∨b=w.heap.size,hrun,⟨_,_,rfl⟩,Dv,?_⟩
    refine h.replace hj Dv hb.os hb.tape hb.output (fun k hk _=>hb.block k hk) rfl (fun b o hm _=> .inl hm) (fun b o hx=> ?_) ?_ rfl (fun b hbk=> ?_)
    ·
     rcases hx with hx|hx
     · have:=h.bd _ _ hx;omega
     · omega
    ·
     refine .inr ⟨w.heap.size,cap',zc.toList,by rw [List.length_append],by rw [List.length_append];exact hge,hle,by rw [List.length_append];simpa using hzs,fun o=> .inr rfl,arr.toList,?_,?_,?_⟩
     ·
      have hh:(w.drew.alloc (.cells arr e)).heap[w.heap.size]? =some (.cells arr e (0,0)):=heap_alloc_new w.drew _
      rw [hh]
     · rw [FC,List.flatten_append];exact ((hT.st Dv).app ((Lp.st Dv).hl hsz)).app (JD _ _ _)
     ·
      intro c hc
      rw [FC] at hc
      simp only [List.mem_append] at hc
      rcases hc with (hc|hc)|hc
      · exact Nj c (List.mem_of_mem_take hc)
      · exact Lp.2.1 c hc
      · exact aU c hc
    ·
     have DN:some w.heap.size=some b:=hbk
     injection DN with e1
     subst e1
     exact ⟨by rw [hs1];omega,.inr (Nat.le_refl _)⟩
theorem Gj {t e:TypeId} {x y:Operand} {sz bytes d:Nat} {zs:List Value} {rows AV:List (List Pr)} {v:Value} {p:Pr} {j:Nat} (hg:o.guard=none) (hd:o.dst=some d) (hn:d<n) (ho:o.op= .call { callee:= .builtin .append,args:= #[x,y],argTypes:= #[t,t] })
  (ht:P.underlying t=some (.slice e)) (hz:Ax P e=some sz) (hby:Bx P e=some bytes) (C1:Bb P e=some zs) (hzl:zs.length=sz) (hone:zs.all (·.oneCell')=true) (hsz:0<sz)
  (hx:VL E x (Aq v p)) (hy:VL E y (slice sz AV)) (hl:∀r∈rows,r.length=sz) (hpos:0<AV.length) (CY:rows.length+AV.length≤maxLen) (hfit:(rows.length+AV.length)*bytes≤140737488355328):DH P M0 w0 S n j (SR.c (Al e sz rows v)) ⟨d,Al e sz (rows++AV)⟩ o E (lens (rows.length+AV.length)):=by
 refine ⟨hg,fun M w a rs Hh he hI hj=> ?_⟩
 have h1:a.eval x=v:=(hx.ev he (by simp [ho,Op.operands,Call.operands])).1
 have h2:=hy.ev he (by simp [ho,Op.operands,Call.operands])
 obtain ⟨v',w',M',hrun,h3,h4,h5⟩:=Qc (ty:=o.type) ht hz hby C1 hzl hone hsz hI hj hl h2 hpos CY hfit
 have CZ:(execOp a.eval o).run P w= .ok (.value v') w':=by simp [execOp,ho,resolve,invoke,builtin,h1,hrun]
 rw [CZ]
 refine ⟨M',h3,h4,?_⟩
 have:(SR.at_ (a.put o.dst v') ⟨d,Al e sz (rows++AV)⟩)=Al e sz (rows++AV) v':=by unfold SR.at_ Slot.val;dsimp only;rw [hd,A_ (by rw [Hh];exact hn)]
 rw [this];exact h5
theorem Am.RP {M:Av} {w:World} {sz:Nat} {e:TypeId} {rows:List (List Pr)} {v:Value} {j:Nat} (h:Am M0 w0 S rs M w) (hj:rs[j]? =some (Al e sz rows v)) (hl:∀r∈rows,r.length=sz):
  ∃M',Ext M w M' w∧Am M0 w0 S (rs.set j (BR e sz v)) M' w∧(slice sz rows).h M' w v:=by
 have hjl:j<rs.length:=by rcases Nat.lt_or_ge j rs.length with h|h;exact h;rw [List.getElem?_eq_none h] at hj;cases hj
 rcases (h.hold _ (List.mem_of_getElem? hj)).1 with ⟨rfl,rfl⟩|Mp
 · exact ⟨M,Ext.refl _ _,h.Bt hj rfl rfl (by intro a n c hv;cases hv),AX sz M w _ rfl⟩
 ·
  obtain ⟨b,cap,spare,rfl,hnc,hcm,hsp,O_⟩:=Mp
  have hC:=h.Bt (r':=AA true b e (rows.flatten++spare.map is)) hj rfl rfl O_
  obtain ⟨M',h1,h2,h3⟩:=Am.dz hC (List.getElem?_set_self hjl) hl hnc hcm (by rw [List.length_map];exact hsp)
  rw [List.set_set] at h2
  exact ⟨M',h1,h2,h3⟩
end
section
variable {P:Program} {L:Lg P} {n:Fm} {fz:Nat} {E:Env} {M0:Av} {w0:World} {S:Nat→Prop} {rs:List Ao} {o:Oper} {ops:Array Oper} {r:List Oper}
def PB (P:Program) (f:FuncId) (args:List Pr) (res:Pr) (r:Ao) (r':Ao) (r2:Ao):Prop:=Entry P f∧∀M0 w0 S rs M w vs,Am M0 w0 S (r::r2::rs) M w→HL M w args vs→
 Calls P f vs.toArray w fun e w'=>∃v M',e= .returned v∧res.h M' w' v∧Ext M w M' w'∧Am M0 w0 S (r'::r2::rs) M' w'
theorem PB.of {f : FuncId} {g : Func} {c : Code} {ps : List Pr} {res : Pr} {R R' R2 : Ao} (hf : P.funcs[f]? = some g) (hb : g.body = some c) (hname : (g.name == "runtime.NumGoroutine") = false) (hlen : ps.length ≤ g.ntmps)
  (h:∀M0 w0 S rs M1 w1,Tr (XZ P) g.ntmps (JY 0 ps) (Hp M0 w0 S (R::Ak M1 w1::R2::rs)) c (bodyPost P g (JI M0 w0 S (R2::rs) M1 w1 res (fun _=>R')))):PB P f ps res R R' R2:=by
 refine ⟨⟨g,hf,hname,by rw [hb];rfl⟩,fun M0 w0 S rs M w vs hI hv=> ?_⟩
 refine calls_of_wp hf hb (h M0 w0 S rs M w _ _ ⟨M,?_,rfl,Gc hv,?_⟩)
 ·
  have:=hv.length
  simp [this];omega
 · exact Am.perm (List.Perm.swap _ _ _) (Am.Ja hI (r:=Ak M w) rfl (Ext.refl _ _))
theorem TO.Qd {Q:Exit→Act→World→Prop} {f:FuncId} {xs:Array Operand} {ts:Array TypeId} {ps:List Pr} {res:Pr} (j i:Nat) {d:Nat} {R0 R1 R2:Ao} (hj:rs[j]? =some R0) (hi:rs[i]? =some R2) (hij:i≠j) (hg:o.guard=none) (hd:o.dst=some d) (hn:d<n) (ho:o.op= .call { callee:= .value (.func f),args:=xs,argTypes:=ts }) (hf:PB P f ps res R0 R1 R2)
  (hv:FD E xs.toList ps) (k:TO P n ops r ((d,res)::E) (Hp M0 w0 S (rs.set j R1)) Q):TO P n ops (o::r) E (Hp M0 w0 S rs) Q:=
 TO.MV hg fun K M w a hsz hdf he hI hK=>by
  have hI:Am M0 w0 S rs M w:=hI
  have h1:=FD.Dp (o:=o) (BX he) (xs:=xs.toList) (fun x hx=>by simp [ho,Op.operands,Call.operands];exact .inr (by simpa using hx)) hv
  have hjl:j<rs.length:=by rcases Nat.lt_or_ge j rs.length with h|h;exact h;rw [List.getElem?_eq_none h] at hj;cases hj
  obtain ⟨m,hm⟩:∃m,(rs.eraseIdx j)[m]? =some R2:=by
   by_cases hlt:i<j
   · exact ⟨i,by rw [List.getElem?_eraseIdx,if_pos hlt];exact hi⟩
   · exact ⟨i-1,by rw [List.getElem?_eraseIdx,if_neg (by omega),show i-1+1=i by omega];exact hi⟩
  have hp:rs.Perm (R0::R2::(rs.eraseIdx j).eraseIdx m):=(DQ hj).trans ((DQ hm).cons _)
  have Le:(R1::R2::(rs.eraseIdx j).eraseIdx m).Perm (rs.set j R1):=((DQ hm).symm.cons _).trans (GK hjl)
  have gF:KF P M0 w0 S o a M w res j (SR.c R1) rs ((execOp a.eval o).run P w):=by
   have hrun:(execOp a.eval o).run P w= .ok (.enter f (xs.toList.map a.eval).toArray) w:=by
    simp [execOp,ho,resolve,Deferred.ofValue,Act.eval,invoke,DM hf.1,FF xs]
   rw [hrun]
   refine (hf.2 M0 w0 S _ M w _ (Am.perm hp hI) h1).mono ?_
   rintro e w' ⟨v,M',rfl,h2,h3,h4⟩
   exact ⟨v,M',rfl,h2,h3,Am.perm Le h4⟩
  refine Gf gF fun v w' M' hv hx JG=>hK _ _ _ _ k ⟨M',by rw [BN];exact hsz,by rw [put_defers];exact hdf,?_,JG⟩
  intro s q hq
  simp only [List.lookup] at hq
  by_cases hs:s=d
  · subst hs;simp at hq;subst hq;rw [hd,A_ (by rw [hsz];exact hn)];exact hv
  · rw [show (s==d)=false by simpa using hs] at hq;rw [hd,BD hs];exact q.st _ _ _ _ _ hx (he s q hq)
end
abbrev Ef (k:IntKind):Pr:=Cp.ex fun i:Int=>is (.int k i)
theorem Jq (k:IntKind) (i:Int):Pr.le (is (.int k i)) (Ef k):=fun _ _ _ h=>⟨i,h⟩
section
variable {P:Program} {L:Lg P} {I:B5} {o:Oper} {E:Env}
theorem Mq {op:BinOp} {t u:TypeId} {x y:Operand} {k:IntKind} (hop:(op== .xor||op== .or)=true) (ho:o.op= .binOp op t x y u) (hx:VL E x (Ef k)) (hy:VL E y (Ef k)):AS P I o E (Ef k):=
 AS.same fun M w a he _=>by
  obtain ⟨m,h1⟩:=hx.ev he (by simp [ho,Op.operands])
  obtain ⟨n,h2⟩:=hy.ev he (by simp [ho,Op.operands])
  have h1:a.eval x= .int k m:=h1
  have h2:a.eval y= .int k n:=h2
  cases op<;>simp at hop<;>exact ⟨_,by simp [execOp,ho,h1,h2,eqGuard,binOp,Op.intBits];rfl,_,rfl⟩
theorem PC {op:BinOp} {t u:TypeId} {x y:Operand} {k k':IntKind} {c:Int} (hop:(op== .shl||op== .shr)=true) (ho:o.op= .binOp op t x y u) (hx:VL E x (Ef k)) (hy:VL E y (is (.int k' c))) (hc:0≤c):AS P I o E (Ef k):=
 AS.same fun M w a he _=>by
  obtain ⟨m,h1⟩:=hx.ev he (by simp [ho,Op.operands])
  have h1:a.eval x= .int k m:=h1
  have h2:a.eval y= .int k' c:=hy.ev he (by simp [ho,Op.operands])
  have hn:¬c<0:=by omega
  cases op<;>simp at hop<;>exact ⟨_,by simp [execOp,ho,h1,h2,eqGuard,binOp,Op.shift,hn];rfl,_,rfl⟩
theorem VP {t u:TypeId} {x y:Operand} {k:IntKind} (ho:o.op= .binOp .add t x y u) (hx:VL E x (Ef k)) (hy:VL E y (Ef k)):AS P I o E (Ef k):=
 AS.same fun M w a he _=>by
  obtain ⟨m,h1⟩:=hx.ev he (by simp [ho,Op.operands])
  obtain ⟨n,h2⟩:=hy.ev he (by simp [ho,Op.operands])
  have h1:a.eval x= .int k m:=h1
  have h2:a.eval y= .int k n:=h2
  exact ⟨_,by simp [execOp,ho,h1,h2,eqGuard,binOp,Op.intArith];rfl,_,rfl⟩
theorem Sx {t u:TypeId} {x y:Operand} {m:Int} (ho:o.op= .binOp .and t x y u) (hx:VL E x (Ef .u64)) (hy:VL E y (is (.int .u64 m))) (h0:0≤m) (jc:m<18446744073709551616):AS P I o E (Cp.ex fun r:Int=>fact (0≤r∧r≤m) (is (.int .u64 r))):=
 AS.same fun M w a he _=>by
  obtain ⟨n,h1⟩:=hx.ev he (by simp [ho,Op.operands])
  have h1:a.eval x= .int .u64 n:=h1
  have h2:a.eval y= .int .u64 m:=hy.ev he (by simp [ho,Op.operands])
  have hm:(BitVec.ofInt 64 m).toNat=m.toNat:=by
   rw [BitVec.toNat_ofInt];omega
  have hle:(BitVec.ofInt 64 n&&&BitVec.ofInt 64 m).toNat≤m.toNat:=by
   rw [BitVec.toNat_and,hm];exact Nat.and_le_right
  have hw:IntKind.u64.wrap (((BitVec.ofInt 64 n&&&BitVec.ofInt 64 m).toNat:Nat):Int)=(((BitVec.ofInt 64 n&&&BitVec.ofInt 64 m).toNat:Nat):Int):=IntWalk.u64_in _ ⟨by omega,by omega⟩
  refine ⟨_,by simp [execOp,ho,h1,h2,eqGuard,binOp,Op.intBits];rfl,(((BitVec.ofInt 64 n&&&BitVec.ofInt 64 m).toNat:Nat):Int),⟨by omega,by omega⟩,?_⟩
  exact congrArg (Value.int .u64) hw
theorem VQ {t u:TypeId} {x y:Operand} {k:Int} {b:Int} (ho:o.op= .binOp .shl t x y u) (hx:VL E x (is (.int .u64 1))) (hy:VL E y (is (.int .i64 k))) (h0:0≤k) (h8:k≤8) (hb:2 ^ k.toNat≤b):AS P I o E (Cp.ex fun r:Int=>fact (1≤r∧r≤b) (is (.int .u64 r))):=
 AS.same fun M w a he _=>by
  have h1:a.eval x= .int .u64 1:=hx.ev he (by simp [ho,Op.operands])
  have h2:a.eval y= .int .i64 k:=hy.ev he (by simp [ho,Op.operands])
  have hn:¬k<0:=by omega
  have hmin:min k.toNat 64=k.toNat:=by omega
  have e:((2 ^ k.toNat:Nat):Int)=(2:Int) ^ k.toNat:=Int.natCast_pow 2 k.toNat
  have lH:1≤2 ^ k.toNat:=Nat.one_le_two_pow
  have lI:2 ^ k.toNat≤256:=Nat.le_trans (Nat.pow_le_pow_right (n:=2) (by omega) (show k.toNat≤8 by omega)) (by decide)
  have F_:(1:Int)≤2 ^ k.toNat:=by rw [←e];omega
  have Nk:(2:Int) ^ k.toNat≤256:=by rw [←e];omega
  have hw:IntKind.u64.wrap (2 ^ k.toNat)=2 ^ k.toNat:=IntWalk.u64_in _ ⟨by omega,by omega⟩
  refine ⟨.int .u64 (IntKind.u64.wrap (1*2 ^ (min k.toNat IntKind.u64.bits))),?_,2 ^ k.toNat,⟨F_,hb⟩,?_⟩
  ·
   simp only [execOp,ho,h1,h2]
   simp [eqGuard,binOp,Op.shift,hn]
   try rw [show min k.toNat IntKind.u64.bits=k.toNat from hmin]
  ·
   show Value.int _ _=Value.int _ _
   rw [show min k.toNat IntKind.u64.bits=k.toNat from hmin,Int.one_mul,hw]
end
theorem Fin.Ip {P:Program} {fz:Nat} {E:Env} {M0:Av} {w0:World} {S:Nat→Prop} {rs:List Ao} {g:Func} {M1:Av} {w1:World} {r:Ao} (hr:g.results= #[]):Fin ⟨fz,[]⟩ E (Hp M0 w0 S (r::Ak M1 w1::rs)) (bodyPost P g (JI M0 w0 S rs M1 w1 Dd (fun _=>r))) .ret:=by
 rintro a w ⟨M,_,hd,he,hi⟩
 obtain ⟨h1,h2⟩:=RG hi
 exact ⟨hd,_,results0 hr,_,M,rfl,rfl,h1,h2⟩
theorem AU {β:Type} {f:β→List Pr} {l:List β} {qs:List Pr} {sz:Nat} (hf:∀x,(f x).length=sz) {i:Int} (h:i.toNat<l.length):((((l.map f).flatten++qs).drop (0+i.toNat*sz)).take sz)=f (l[i.toNat]'h):=by
 rw [Nat.zero_add];exact Kg hf (List.getElem?_eq_getElem h)
theorem Aw {β:Type} {f:β→List Pr} {sz:Nat} (hf:∀x,(f x).length=sz) {l:List β} {qs:List Pr} {i:Int} {x:β} (h:i.toNat<l.length):((l.map f).flatten++qs).take (0+i.toNat*sz)++f x++((l.map f).flatten++qs).drop (0+i.toNat*sz+sz)=((l.set i.toNat x).map f).flatten++qs:=by
 rw [Nat.zero_add];exact Io hf h
section
variable {P:Program} {L:Lg P} {n:Fm} {fz:Nat} {E:Env} {M0:Av} {w0:World} {S:Nat→Prop} {rs:List Ao} {o:Oper} {β:Type} {b:Nat} {e:TypeId} {f:β→List Pr} {qs:List Pr} {Φ:List β→Prop}
def CU (b:Nat) (e:TypeId) (f:β→List Pr) (Φ:List β→Prop) (qs:List Pr):Ao where
 Ee:=some b
 new:=true
 h M w:=∃st:List β,Φ st∧(AA true b e ((st.map f).flatten++qs)).h M w
 st M w M' w' he hk h:=let ⟨st,h1,h2⟩:=h;⟨st,h1,(AA true b e ((st.map f).flatten++qs)).st M w M' w' he hk h2⟩
theorem St.DC (j:Nat) (hj:rs[j]? =some (CU b e f Φ qs)) {a:Act} {w:World} (h:St n E (Hp M0 w0 S rs) a w):
  ∃st:List β,Φ st∧St n E (Hp M0 w0 S (rs.set j (AA true b e ((st.map f).flatten++qs)))) a w:=by
 obtain ⟨M,h1,h2,h3,h4⟩:=h
 have h4:Am M0 w0 S rs M w:=h4
 obtain ⟨st,hp,h8⟩:=(h4.hold _ (List.mem_of_getElem? hj)).1
 exact ⟨st,hp,M,h1,h2,h3,h4.Bt hj rfl rfl h8⟩
theorem Tr.DC {Q:Exit→Act→World→Prop} {c:Code} (j:Nat) (hj:rs[j]? =some (CU b e f Φ qs))
  (k:∀st:List β,Φ st→Tr L n E (Hp M0 w0 S (rs.set j (AA true b e ((st.map f).flatten++qs)))) c Q):Tr L n E (Hp M0 w0 S rs) c Q:=
 fun a w hs=>let ⟨st,h1,h2⟩:=hs.DC j hj;k st h1 a w h2
theorem Fin.DC {Q:Exit→Act→World→Prop} {x:Exit} (j:Nat) (hj:rs[j]? =some (CU b e f Φ qs))
  (k:∀st:List β,Φ st→Fin n E (Hp M0 w0 S (rs.set j (AA true b e ((st.map f).flatten++qs)))) Q x):Fin n E (Hp M0 w0 S rs) Q x:=
 fun a w hs=>let ⟨st,h1,h2⟩:=hs.DC j hj;k st h1 a w h2
theorem TO.DC {Q:Exit→Act→World→Prop} {ops:Array Oper} {r:List Oper} (j:Nat) (hj:rs[j]? =some (CU b e f Φ qs))
  (k:∀st:List β,Φ st→TO P n ops r E (Hp M0 w0 S (rs.set j (AA true b e ((st.map f).flatten++qs)))) Q):TO P n ops r E (Hp M0 w0 S rs) Q:=
 fun m hl a w hs=>let ⟨st,h1,h2⟩:=hs.DC j hj;k st h1 m hl a w h2
theorem St.CL {st:List β} (j:Nat) (hj:rs[j]? =some (AA true b e ((st.map f).flatten++qs))) (hp:Φ st) {a:Act} {w:World} (h:St n E (Hp M0 w0 S rs) a w):St n E (Hp M0 w0 S (rs.set j (CU b e f Φ qs))) a w:=by
 obtain ⟨M,h1,h2,h3,h4⟩:=h
 have h4:Am M0 w0 S rs M w:=h4
 exact ⟨M,h1,h2,h3,h4.Bt hj rfl rfl ⟨st,hp,(h4.hold _ (List.mem_of_getElem? hj)).1⟩⟩
theorem Tr.CL {Q:Exit→Act→World→Prop} {c:Code} {st:List β} (Φ:List β→Prop) (j:Nat) (hj:rs[j]? =some (AA true b e ((st.map f).flatten++qs))) (hp:Φ st)
  (k:Tr L n E (Hp M0 w0 S (rs.set j (CU b e f Φ qs))) c Q):Tr L n E (Hp M0 w0 S rs) c Q:=Tr.conv (fun _ _ hs=>hs.CL j hj hp) k
theorem Fin.CL {Q:Exit→Act→World→Prop} {x:Exit} {st:List β} (Φ:List β→Prop) (j:Nat) (hj:rs[j]? =some (AA true b e ((st.map f).flatten++qs))) (hp:Φ st)
  (k:Fin n E (Hp M0 w0 S (rs.set j (CU b e f Φ qs))) Q x):Fin n E (Hp M0 w0 S rs) Q x:=Fin.conv (fun _ _ hs=>hs.CL j hj hp) k
instance (priority:=300) aa (b:Bool) (p:Prop) [h:GL b false p]:GL (!b) true p:=⟨fun e=>h.Jl (by simpa using e)⟩
instance (priority:=300) af (b:Bool) (p:Prop) [h:GL b true p]:GL (!b) false p:=⟨fun e=>h.Jl (by simpa using e)⟩
end
end Cp
namespace Cp
open Go.Sort
section
variable {β:Type} [Inhabited β] {c:β×β→Int} {st:List β} {a b i j:Int}
def Bs (c:β×β→Int) (x y:β):Bool:=decide (c (x,y)<0)
theorem gx (h:i.toNat<st.length):st.toArray[i.toNat]! =st[i.toNat]:=by simp [h]
theorem sw (hi:i.toNat<st.length) (hj:j.toNat<st.length):((st.set i.toNat (st[j.toNat]'hj)).set j.toNat (st[i.toNat]'hi)).toArray=swp st.toArray i.toNat j.toNat:=by
 unfold swp
 rw [gx hi,gx hj]
 simp [Array.setIfInBounds_def,hi,hj]
omit [Inhabited β] in
theorem E7 {x y:β} (h:c (x,y)<0):Bs c x y=true:=decide_eq_true h
omit [Inhabited β] in
theorem F2 {x y:β} (h:¬c (x,y)<0):Bs c x y=false:=decide_eq_false h
theorem YI (h0:0≤a) (ha:a<j) {k:Int} (hk:k=j-1) (hj:j.toNat<st.length) (hj':k.toNat<st.length) (hc:c (st[j.toNat]'hj,st[k.toNat]'hj')<0):
  insInner (Bs c) a.toNat k.toNat ((st.set j.toNat (st[k.toNat]'hj')).set k.toNat (st[j.toNat]'hj)).toArray=insInner (Bs c) a.toNat j.toNat st.toArray:=by
 rw [sw hj hj']
 obtain ⟨m,hm⟩:∃m,j.toNat=m+1:=⟨j.toNat-1,by omega⟩
 have hk2:k.toNat=m:=by omega
 have e:Bs c (st.toArray[m+1]!) (st.toArray[m]!)=true:=by rw [←hm,←hk2,gx hj,gx hj'];exact E7 hc
 rw [hm,hk2]
 conv=>rhs;rw [insInner]
 rw [if_pos (by rw [e];simp;omega)]
theorem RQ (h0:0≤a) (h:¬a<j):st.toArray=insInner (Bs c) a.toNat j.toNat st.toArray:=by
 cases hm:j.toNat with
 |zero=>rfl
 |succ m=>rw [insInner,if_neg (by simp;omega)]
theorem RS (h0:0≤a) (ha:a<j) {k:Int} (hk:k=j-1) (hj:j.toNat<st.length) (hj':k.toNat<st.length) (hc:¬c (st[j.toNat]'hj,st[k.toNat]'hj')<0):st.toArray=insInner (Bs c) a.toNat j.toNat st.toArray:=by
 obtain ⟨m,hm⟩:∃m,j.toNat=m+1:=⟨j.toNat-1,by omega⟩
 have hk2:k.toNat=m:=by omega
 have e:Bs c (st.toArray[m+1]!) (st.toArray[m]!)=false:=by rw [←hm,←hk2,gx hj,gx hj'];exact F2 hc
 rw [hm,insInner,if_neg (by rw [e];simp)]
theorem Qe {d:Array β} (h0:0≤i) (h:i<b):insOuter (Bs c) a.toNat b.toNat (i+1).toNat (insInner (Bs c) a.toNat i.toNat d)=insOuter (Bs c) a.toNat b.toNat i.toNat d:=by
 conv=>rhs;rw [insOuter]
 rw [if_pos (by omega),show (i+1).toNat=i.toNat+1 by omega]
theorem RT {d:Array β} (h0:0≤i) (h:¬i<b):insOuter (Bs c) a.toNat b.toNat i.toNat d=d:=by
 rw [insOuter,if_neg (by omega)]
theorem PD {d:Array β} (h0:0≤a):insOuter (Bs c) a.toNat b.toNat (a+1).toNat d=insertionSort (Bs c) d a.toNat b.toNat:=by
 unfold insertionSort;rw [show (a+1).toNat=a.toNat+1 by omega]
variable {hi F r:Int}
theorem Sy {d:Array β} (h0:0≤r) (h:hi≤2*r+1):d=siftDown (Bs c) hi.toNat F.toNat r.toNat d:=by
 rw [siftDown,dif_pos (by omega)]
theorem Nl {x y:Int} (h0:0≤r) (hF:0≤F) (h:¬hi≤2*r+1) (h2:¬2*r+1+1<hi) (hx:x=F+r) (hy:y=F+(2*r+1)) (hxl:x.toNat<st.length) (Kh:y.toNat<st.length) (hc:¬c (st[x.toNat]'hxl,st[y.toNat]'Kh)<0):
  st.toArray=siftDown (Bs c) hi.toNat F.toNat r.toNat st.toArray:=by
 have e:Bs c (st.toArray[F.toNat+r.toNat]!) (st.toArray[F.toNat+(2*r.toNat+1)]!)=false:=by
  rw [show F.toNat+r.toNat=x.toNat by omega,show F.toNat+(2*r.toNat+1)=y.toNat by omega,gx hxl,gx Kh];exact F2 hc
 rw [siftDown,dif_neg (by omega),if_neg (by simp;omega),if_pos (by rw [e];rfl)]
theorem RU {x y:Int} (h0:0≤r) (hF:0≤F) (h:¬hi≤2*r+1) (h2:¬2*r+1+1<hi) (hx:x=F+r) (hy:y=F+(2*r+1)) (hxl:x.toNat<st.length) (Kh:y.toNat<st.length) (hc:c (st[x.toNat]'hxl,st[y.toNat]'Kh)<0):
  siftDown (Bs c) hi.toNat F.toNat (2*r+1).toNat ((st.set x.toNat (st[y.toNat]'Kh)).set y.toNat (st[x.toNat]'hxl)).toArray=siftDown (Bs c) hi.toNat F.toNat r.toNat st.toArray:=by
 have e:Bs c (st.toArray[F.toNat+r.toNat]!) (st.toArray[F.toNat+(2*r.toNat+1)]!)=true:=by
  rw [show F.toNat+r.toNat=x.toNat by omega,show F.toNat+(2*r.toNat+1)=y.toNat by omega,gx hxl,gx Kh];exact E7 hc
 rw [sw hxl Kh]
 conv=>rhs;rw [siftDown]
 rw [dif_neg (by omega),if_neg (by simp;omega),if_neg (by rw [e];simp)]
 rw [show (2*r+1).toNat=2*r.toNat+1 by omega,show F.toNat+r.toNat=x.toNat by omega,show F.toNat+(2*r.toNat+1)=y.toNat by omega]
theorem Nn {x y u v:Int} (h0:0≤r) (hF:0≤F) (h:¬hi≤2*r+1) (hu:u=F+(2*r+1)) (hv:v=F+(2*r+1)+1) (Sz:u.toNat<st.length) (hvl:v.toNat<st.length) (h2:¬c (st[u.toNat]'Sz,st[v.toNat]'hvl)<0)
  (hx:x=F+r) (hy:y=F+(2*r+1)) (hxl:x.toNat<st.length) (Kh:y.toNat<st.length) (hc:¬c (st[x.toNat]'hxl,st[y.toNat]'Kh)<0):st.toArray=siftDown (Bs c) hi.toNat F.toNat r.toNat st.toArray:=by
 have e:Bs c (st.toArray[F.toNat+r.toNat]!) (st.toArray[F.toNat+(2*r.toNat+1)]!)=false:=by
  rw [show F.toNat+r.toNat=x.toNat by omega,show F.toNat+(2*r.toNat+1)=y.toNat by omega,gx hxl,gx Kh];exact F2 hc
 have e2:Bs c (st.toArray[F.toNat+(2*r.toNat+1)]!) (st.toArray[F.toNat+(2*r.toNat+1)+1]!)=false:=by
  rw [show F.toNat+(2*r.toNat+1)+1=v.toNat by omega,show F.toNat+(2*r.toNat+1)=u.toNat by omega,gx Sz,gx hvl];exact F2 h2
 rw [siftDown,dif_neg (by omega),if_neg (by rw [e2];simp),if_pos (by rw [e];rfl)]
theorem RV {x y u v:Int} (h0:0≤r) (hF:0≤F) (h:¬hi≤2*r+1) (hu:u=F+(2*r+1)) (hv:v=F+(2*r+1)+1) (Sz:u.toNat<st.length) (hvl:v.toNat<st.length) (h2:¬c (st[u.toNat]'Sz,st[v.toNat]'hvl)<0)
  (hx:x=F+r) (hy:y=F+(2*r+1)) (hxl:x.toNat<st.length) (Kh:y.toNat<st.length) (hc:c (st[x.toNat]'hxl,st[y.toNat]'Kh)<0):
  siftDown (Bs c) hi.toNat F.toNat (2*r+1).toNat ((st.set x.toNat (st[y.toNat]'Kh)).set y.toNat (st[x.toNat]'hxl)).toArray=siftDown (Bs c) hi.toNat F.toNat r.toNat st.toArray:=by
 have e:Bs c (st.toArray[F.toNat+r.toNat]!) (st.toArray[F.toNat+(2*r.toNat+1)]!)=true:=by
  rw [show F.toNat+r.toNat=x.toNat by omega,show F.toNat+(2*r.toNat+1)=y.toNat by omega,gx hxl,gx Kh];exact E7 hc
 have e2:Bs c (st.toArray[F.toNat+(2*r.toNat+1)]!) (st.toArray[F.toNat+(2*r.toNat+1)+1]!)=false:=by
  rw [show F.toNat+(2*r.toNat+1)+1=v.toNat by omega,show F.toNat+(2*r.toNat+1)=u.toNat by omega,gx Sz,gx hvl];exact F2 h2
 rw [sw hxl Kh]
 conv=>rhs;rw [siftDown]
 rw [dif_neg (by omega),if_neg (by rw [e2];simp),if_neg (by rw [e];simp)]
 rw [show (2*r+1).toNat=2*r.toNat+1 by omega,show F.toNat+r.toNat=x.toNat by omega,show F.toNat+(2*r.toNat+1)=y.toNat by omega]
theorem PF {x y u v:Int} (h0:0≤r) (hF:0≤F) (h:2*r+1+1<hi) (hu:u=F+(2*r+1)) (hv:v=F+(2*r+1)+1) (Sz:u.toNat<st.length) (hvl:v.toNat<st.length) (h2:c (st[u.toNat]'Sz,st[v.toNat]'hvl)<0)
  (hx:x=F+r) (hy:y=F+(2*r+1+1)) (hxl:x.toNat<st.length) (Kh:y.toNat<st.length) (hc:¬c (st[x.toNat]'hxl,st[y.toNat]'Kh)<0):st.toArray=siftDown (Bs c) hi.toNat F.toNat r.toNat st.toArray:=by
 have e:Bs c (st.toArray[F.toNat+r.toNat]!) (st.toArray[F.toNat+(2*r.toNat+2)]!)=false:=by
  rw [show F.toNat+r.toNat=x.toNat by omega,show F.toNat+(2*r.toNat+2)=y.toNat by omega,gx hxl,gx Kh];exact F2 hc
 have e2:Bs c (st.toArray[F.toNat+(2*r.toNat+1)]!) (st.toArray[F.toNat+(2*r.toNat+1)+1]!)=true:=by
  rw [show F.toNat+(2*r.toNat+1)+1=v.toNat by omega,show F.toNat+(2*r.toNat+1)=u.toNat by omega,gx Sz,gx hvl];exact E7 h2
 rw [siftDown,dif_neg (by omega),if_pos (by rw [e2];simp;omega),if_pos (by rw [e];rfl)]
theorem S0 {x y u v:Int} (h0:0≤r) (hF:0≤F) (h:2*r+1+1<hi) (hu:u=F+(2*r+1)) (hv:v=F+(2*r+1)+1) (Sz:u.toNat<st.length) (hvl:v.toNat<st.length) (h2:c (st[u.toNat]'Sz,st[v.toNat]'hvl)<0)
  (hx:x=F+r) (hy:y=F+(2*r+1+1)) (hxl:x.toNat<st.length) (Kh:y.toNat<st.length) (hc:c (st[x.toNat]'hxl,st[y.toNat]'Kh)<0):
  siftDown (Bs c) hi.toNat F.toNat (2*r+1+1).toNat ((st.set x.toNat (st[y.toNat]'Kh)).set y.toNat (st[x.toNat]'hxl)).toArray=siftDown (Bs c) hi.toNat F.toNat r.toNat st.toArray:=by
 have e:Bs c (st.toArray[F.toNat+r.toNat]!) (st.toArray[F.toNat+(2*r.toNat+2)]!)=true:=by
  rw [show F.toNat+r.toNat=x.toNat by omega,show F.toNat+(2*r.toNat+2)=y.toNat by omega,gx hxl,gx Kh];exact E7 hc
 have e2:Bs c (st.toArray[F.toNat+(2*r.toNat+1)]!) (st.toArray[F.toNat+(2*r.toNat+1)+1]!)=true:=by
  rw [show F.toNat+(2*r.toNat+1)+1=v.toNat by omega,show F.toNat+(2*r.toNat+1)=u.toNat by omega,gx Sz,gx hvl];exact E7 h2
 rw [sw hxl Kh]
 conv=>rhs;rw [siftDown]
 rw [dif_neg (by omega),if_pos (by rw [e2];simp;omega),if_neg (by rw [e];simp),dif_pos (by omega)]
 rw [show (2*r+1+1).toNat=2*r.toNat+2 by omega,show F.toNat+r.toNat=x.toNat by omega,show F.toNat+(2*r.toNat+2)=y.toNat by omega]
theorem S1 {d:Array β} (h0:0≤i):heapBuild (Bs c) hi.toNat F.toNat (i-1+1).toNat (siftDown (Bs c) hi.toNat F.toNat i.toNat d)=heapBuild (Bs c) hi.toNat F.toNat (i+1).toNat d:=by
 rw [show (i+1).toNat=i.toNat+1 by omega,show (i-1+1).toNat=i.toNat by omega];rfl
theorem RW {d:Array β} (h0:¬0≤i):heapBuild (Bs c) hi.toNat F.toNat (i+1).toNat d=d:=by
 rw [show (i+1).toNat=0 by omega];rfl
theorem YJ {d:Array β} (h0:0≤i):heapPop (Bs c) F.toNat (i-1+1).toNat (siftDown (Bs c) i.toNat F.toNat (0:Int).toNat (swp d F.toNat (F.toNat+i.toNat)))=heapPop (Bs c) F.toNat (i+1).toNat d:=by
 rw [show (i+1).toNat=i.toNat+1 by omega,show (i-1+1).toNat=i.toNat by omega];rfl
theorem VR {d:Array β} (h0:¬0≤i):heapPop (Bs c) F.toNat (i+1).toNat d=d:=by
 rw [show (i+1).toNat=0 by omega];rfl
theorem RX (h0:0≤a) (hab:a≤b) (hb:b≤1000000):Go.IntKind.i64.wrap ((b-a-1).tdiv 2)=(((b.toNat-a.toNat-1)/2:Nat):Int):=by
 have:(b-a-1).tdiv 2=(((b.toNat-a.toNat-1)/2:Nat):Int):=by
  rcases Int.lt_or_le (b-a-1) 0 with h|h
  ·
   have e:b-a-1= -1:=by omega
   rw [e,show b.toNat-a.toNat-1=0 by omega];rfl
  · rw [Int.tdiv_eq_ediv_of_nonneg h];omega
 rw [this,Go.IntWalk.i64_in _ ⟨by omega,by omega⟩]
theorem heap_holds (hw:SWO (Bs c)) (d:Array β) (h0:0≤a) (hab:a≤b) (hb:b.toNat≤d.size):
  PermIn a.toNat b.toNat d (heapPop (Bs c) a.toNat (b-a).toNat (heapBuild (Bs c) (b-a).toNat a.toNat ((b.toNat-a.toNat-1)/2+1) d))∧SortedIn (Bs c) a.toNat b.toNat (heapPop (Bs c) a.toNat (b-a).toNat (heapBuild (Bs c) (b-a).toNat a.toNat ((b.toNat-a.toNat-1)/2+1) d)):=by
 have:=heapSort_holds hw d a.toNat b.toNat (by omega) hb
 unfold heapSort at this
 rw [show (b-a).toNat=b.toNat-a.toNat by omega]
 exact this
theorem XG {n:Int} (h0:0≤n) (h1:n≤1000000):0≤Go.IntKind.i64.wrap (n.tdiv 4)∧4*Go.IntKind.i64.wrap (n.tdiv 4)≤n∧n<4*Go.IntKind.i64.wrap (n.tdiv 4)+4:=by
 have:n.tdiv 4=n/4:=Int.tdiv_eq_ediv_of_nonneg h0
 rw [this,Go.IntWalk.i64_in _ ⟨by omega,by omega⟩]
 omega
theorem S2 {p:β→Bool} (h0:0≤i) (hij:i≤j) (hl:i.toNat<st.length) (hp:p (st[i.toNat]'hl)=true):scanUp p st.toArray j.toNat (i+1).toNat=scanUp p st.toArray j.toNat i.toNat:=by
 conv=>rhs;rw [scanUp]
 rw [if_pos (by rw [gx hl,hp];simp;omega),show (i+1).toNat=i.toNat+1 by omega]
theorem Ki {p:β→Bool} {d:Array β} (hj:0≤j) (hij:¬i≤j):scanUp p d j.toNat i.toNat=i.toNat:=by
 rw [scanUp,if_neg (by simp;omega)]
theorem Kj {p:β→Bool} (hl:i.toNat<st.length) (hp:p (st[i.toNat]'hl)=false):scanUp p st.toArray j.toNat i.toNat=i.toNat:=by
 rw [scanUp,if_neg (by rw [gx hl,hp];simp)]
theorem S3 {p:β→Bool} (h0:1≤i) (hij:i≤j) (hl:j.toNat<st.length) (hp:p (st[j.toNat]'hl)=true):scanDown p st.toArray i.toNat (j-1).toNat=scanDown p st.toArray i.toNat j.toNat:=by
 obtain ⟨m,hm⟩:∃m,j.toNat=m+1:=⟨j.toNat-1,by omega⟩
 have Le:p (st.toArray[m+1]!)=true:=by rw [←hm,gx hl];exact hp
 rw [show (j-1).toNat=m by omega,hm]
 conv=>rhs;rw [scanDown]
 rw [if_pos (by rw [Le];simp;omega)]
theorem Kk {p:β→Bool} {d:Array β} (h0:0≤j) (hij:¬i≤j):scanDown p d i.toNat j.toNat=j.toNat:=by
 cases hm:j.toNat with
 |zero=>rfl
 |succ m=>rw [scanDown,if_neg (by simp;omega)]
theorem Kl {p:β→Bool} (hl:j.toNat<st.length) (hp:p (st[j.toNat]'hl)=false):scanDown p st.toArray i.toNat j.toNat=j.toNat:=by
 cases hm:j.toNat with
 |zero=>rfl
 |succ m=>
  have Le:p (st.toArray[m+1]!)=false:=by rw [←hm,gx hl];exact hp
  rw [scanDown,if_neg (by rw [Le];simp)]
abbrev pU (c:β×β→Int) (d:Array β) (a:Int):β→Bool:=fun x=>Bs c x d[a.toNat]!
abbrev pD (c:β×β→Int) (d:Array β) (a:Int):β→Bool:=fun x=> !Bs c x d[a.toNat]!
abbrev qU (c:β×β→Int) (d:Array β) (a:Int):β→Bool:=fun x=> !Bs c d[a.toNat]! x
abbrev qD (c:β×β→Int) (d:Array β) (a:Int):β→Bool:=fun x=>Bs c d[a.toNat]! x
theorem ah (hi:i.toNat<st.length) (ha:a.toNat<st.length) (h:c (st[i.toNat]'hi,st[a.toNat]'ha)<0):pU c st.toArray a (st[i.toNat]'hi)=true:=by show Bs c _ _=true;rw [gx ha];exact E7 h
theorem aj (hi:i.toNat<st.length) (ha:a.toNat<st.length) (h:¬c (st[i.toNat]'hi,st[a.toNat]'ha)<0):pU c st.toArray a (st[i.toNat]'hi)=false:=by show Bs c _ _=false;rw [gx ha];exact F2 h
theorem ak (hi:i.toNat<st.length) (ha:a.toNat<st.length) (h:¬c (st[i.toNat]'hi,st[a.toNat]'ha)<0):pD c st.toArray a (st[i.toNat]'hi)=true:=by show (!Bs c _ _)=true;rw [gx ha,F2 h];rfl
theorem aq (hi:i.toNat<st.length) (ha:a.toNat<st.length) (h:c (st[i.toNat]'hi,st[a.toNat]'ha)<0):pD c st.toArray a (st[i.toNat]'hi)=false:=by show (!Bs c _ _)=false;rw [gx ha,E7 h];rfl
theorem gG (hi:i.toNat<st.length) (ha:a.toNat<st.length) (h:¬c (st[a.toNat]'ha,st[i.toNat]'hi)<0):qU c st.toArray a (st[i.toNat]'hi)=true:=by show (!Bs c _ _)=true;rw [gx ha,F2 h];rfl
theorem gH (hi:i.toNat<st.length) (ha:a.toNat<st.length) (h:c (st[a.toNat]'ha,st[i.toNat]'hi)<0):qU c st.toArray a (st[i.toNat]'hi)=false:=by show (!Bs c _ _)=false;rw [gx ha,E7 h];rfl
theorem gI (hi:i.toNat<st.length) (ha:a.toNat<st.length) (h:c (st[a.toNat]'ha,st[i.toNat]'hi)<0):qD c st.toArray a (st[i.toNat]'hi)=true:=by show Bs c _ _=true;rw [gx ha];exact E7 h
theorem gJ (hi:i.toNat<st.length) (ha:a.toNat<st.length) (h:¬c (st[a.toNat]'ha,st[i.toNat]'hi)<0):qD c st.toArray a (st[i.toNat]'hi)=false:=by show Bs c _ _=false;rw [gx ha];exact F2 h
abbrev XH (c:β×β→Int) (a i j:Int) (d:Array β):Nat×Array β:=partLoop (Bs c) a.toNat i.toNat j.toNat d
abbrev YK (c:β×β→Int) (a i j:Int) (d:Array β):Nat×Array β:=partEqLoop (Bs c) a.toNat i.toNat j.toNat d
theorem Gk {i2 j2:Int} (h1:i2.toNat=scanUp (pU c st.toArray a) st.toArray j.toNat i.toNat) (h2:j2.toNat=scanDown (pD c st.toArray a) st.toArray i2.toNat j.toNat) (h0:0≤j2) (h:i2>j2):XH c a i j st.toArray=(j2.toNat,st.toArray):=by
 have h:=partLoop_eq (Bs c) a.toNat i.toNat j.toNat st.toArray
 rw [←h1,←h2,if_pos (by omega)] at h
 exact h
theorem Qf {i2 j2:Int} (h1:i2.toNat=scanUp (pU c st.toArray a) st.toArray j.toNat i.toNat) (h2:j2.toNat=scanDown (pD c st.toArray a) st.toArray i2.toNat j.toNat) (h0:0≤i2) (h:¬i2>j2) (hi:i2.toNat<st.length) (hj:j2.toNat<st.length):
  XH c a (i2+1) (j2-1) ((st.set i2.toNat (st[j2.toNat]'hj)).set j2.toNat (st[i2.toNat]'hi)).toArray=XH c a i j st.toArray:=by
 have h:=partLoop_eq (Bs c) a.toNat i.toNat j.toNat st.toArray
 rw [←h1,←h2,if_neg (by omega)] at h
 unfold XH
 rw [h,sw hi hj,show (i2+1).toNat=i2.toNat+1 by omega,show (j2-1).toNat=j2.toNat-1 by omega]
theorem Np {i2 j2:Int} (h1:i2.toNat=scanUp (qU c st.toArray a) st.toArray j.toNat i.toNat) (h2:j2.toNat=scanDown (qD c st.toArray a) st.toArray i2.toNat j.toNat) (h0:0≤j2) (h:i2>j2):YK c a i j st.toArray=(i2.toNat,st.toArray):=by
 have h:=partEqLoop_eq (Bs c) a.toNat i.toNat j.toNat st.toArray
 rw [←h1,←h2,if_pos (by omega)] at h
 exact h
theorem YL {i2 j2:Int} (h1:i2.toNat=scanUp (qU c st.toArray a) st.toArray j.toNat i.toNat) (h2:j2.toNat=scanDown (qD c st.toArray a) st.toArray i2.toNat j.toNat) (h0:0≤i2) (h:¬i2>j2) (hi:i2.toNat<st.length) (hj:j2.toNat<st.length):
  YK c a (i2+1) (j2-1) ((st.set i2.toNat (st[j2.toNat]'hj)).set j2.toNat (st[i2.toNat]'hi)).toArray=YK c a i j st.toArray:=by
 have h:=partEqLoop_eq (Bs c) a.toNat i.toNat j.toNat st.toArray
 rw [←h1,←h2,if_neg (by omega)] at h
 unfold YK
 rw [h,sw hi hj,show (i2+1).toNat=i2.toNat+1 by omega,show (j2-1).toNat=j2.toNat-1 by omega]
variable {lt:β→β→Bool} {a0 b0 m n:Nat} {l s s':Array β}
structure PS (lt:β→β→Bool) (a0 b0 a b:Nat) (l s:Array β):Prop where
 ha:a0≤a
 hab:a≤b
 hb:b≤b0
 hp:PermIn a0 b0 l s
 below:Below lt a b s
 out:∀i j,a0≤i→i<j→j<b0→(i<a∨b≤j)→lt s[j]! s[i]! =false
theorem PS.init (h:a0≤b0) (hB:Below lt a0 b0 l):PS lt a0 b0 a0 b0 l l:=⟨Nat.le_refl _,h,Nat.le_refl _,permIn_refl _ _ _,hB,fun _ _ h1 _ h3 h4=>by omega⟩
theorem PS.perm (h:PS lt a0 b0 m n l s) (hs:b0≤l.size) (hq:PermIn m n s s'):PS lt a0 b0 m n l s':=by
 have hsz:s.size=l.size:=h.hp.1
 have W0:n≤s.size:=by have:=h.hb;omega
 refine ⟨h.ha,h.hab,h.hb,permIn_trans _ _ _ _ _ h.hp (permIn_mono _ _ _ _ _ _ h.ha h.hb (by omega) hq),Below.permA permIn_all W0 h.below hq,fun i j h1 h2 h3 h4=> ?_⟩
 have hm:=h.hab
 by_cases hi:m≤i∧i<n
 ·
  have hj:n≤j:=by omega
  rw [hq.2.1 j (.inr hj)]
  exact permIn_all s s' m n (fun x=>lt s[j]! x=false) W0 hq (fun k hk1 hk2=>h.out k j (by have:=h.ha;omega) (by omega) h3 (.inr hj)) i hi.1 hi.2
 ·
  rw [hq.2.1 i (by omega)]
  by_cases hj:m≤j∧j<n
  · exact permIn_all s s' m n (fun x=>lt x s[i]! =false) W0 hq (fun k hk1 hk2=>h.out i k h1 (by omega) (by have:=h.hb;omega) (.inl (by omega))) j hj.1 hj.2
  · rw [hq.2.1 j (by omega)];exact h.out i j h1 h2 h3 h4
theorem PS.done (h:PS lt a0 b0 m n l s) (hs:SortedIn lt m n s):PermIn a0 b0 l s∧SortedIn lt a0 b0 s:=by
 refine ⟨h.hp,fun i j h1 h2 h3=> ?_⟩
 by_cases hh:i<m∨n≤j
 · exact h.out i j h1 h2 h3 hh
 · exact hs i j (by omega) h2 (by omega)
theorem PS.eq (hw:SWO lt) (h:PS lt a0 b0 m n l s) (hs:b0≤l.size) {pv:β} {k:Nat} (hm:0<m) (G2:lt s[m-1]! pv=false) (hk:m<k) (hkn:k≤n) (hq:PermIn m n s s') (h1:∀i,m≤i→i<k→lt pv s'[i]! =false) (h2:∀i,k≤i→i<n→lt pv s'[i]! =true):
  PS lt a0 b0 k n l s':=by
 have h':=h.perm hs hq
 have hle:∀j,m≤j→j<n→lt s'[j]! pv=false:=by
  intro j YG hj2
  by_cases hjk:k≤j
  · exact hw.asym (h2 j hjk hj2)
  ·
   have hb:=h'.below
   rcases hb with hb|hb
   · omega
   ·
    have hb:=hb j YG hj2
    rw [hq.2.1 (m-1) (.inl (by omega))] at hb
    exact hw.ntrans _ _ _ hb G2
 have key:∀i j,m≤i→i<k→m≤j→j<n→lt s'[j]! s'[i]! =false:=fun i j ha hb hc hd=>hw.ntrans _ _ _ (hle j hc hd) (h1 i ha hb)
 refine ⟨by have:=h.ha;omega,hkn,h.hb,h'.hp,.inr fun i hi1 hi2=>key (k-1) i (by omega) (by omega) (by omega) hi2,fun i j g1 g2 g3 g4=> ?_⟩
 by_cases hh:i<m∨n≤j
 · exact h'.out i j g1 g2 g3 hh
 · exact key i j (by omega) (by omega) (by omega) (by omega)
structure Km (lt:β→β→Bool) (m n k:Nat) (s:Array β):Prop where
 h1:m≤k
 h2:k<n
 lo:∀i,m≤i→i<k→lt s[i]! s[k]! =true
 up:∀i,k<i→i<n→lt s[i]! s[k]! =false
theorem PS.left (hw:SWO lt) {k:Nat} (h:PS lt a0 b0 m n l s) (hs:b0≤l.size) (hp:Km lt m n k s) (hq:PermIn m k s s') (Gl:SortedIn lt m k s'):PS lt a0 b0 (k+1) n l s':=by
 obtain ⟨h1,h2,lo,up⟩:=hp
 have hsz:s.size=l.size:=h.hp.1
 have hks:k≤s.size:=by have:=h.hb;omega
 have SN:PermIn m n s s':=permIn_mono _ _ _ _ _ _ (Nat.le_refl _) (by omega) (by have:=h.hb;omega) hq
 have h':=h.perm hs SN
 have ek:s'[k]! =s[k]! :=hq.2.1 k (.inr (Nat.le_refl _))
 have lo':∀i,m≤i→i<k→lt s'[i]! s[k]! =true:=fun i g1 g2=>permIn_all s s' m k (fun x=>lt x s[k]! =true) hks hq lo i g1 g2
 have up':∀i,k<i→i<n→lt s'[i]! s[k]! =false:=fun i g1 g2=>by rw [hq.2.1 i (.inr (by omega))];exact up i g1 g2
 refine ⟨by have:=h.ha;omega,by omega,h.hb,h'.hp,.inr fun i g1 g2=> ?_,fun i j g1 g2 g3 g4=> ?_⟩
 · rw [show k+1-1=k by omega,ek];exact up' i (by omega) g2
 ·
  by_cases hh:i<m∨n≤j
  · exact h'.out i j g1 g2 g3 hh
  ·
   rcases Nat.lt_trichotomy i k with hik|hik|hik
   ·
    rcases Nat.lt_trichotomy j k with hjk|hjk|hjk
    · exact Gl i j (by omega) g2 hjk
    · subst hjk;rw [ek];exact hw.asym (lo' i (by omega) hik)
    · exact hw.ntrans _ _ _ (up' j hjk (by omega)) (hw.asym (lo' i (by omega) hik))
   · subst hik;rw [ek];exact up' j g2 (by omega)
   · omega
theorem PS.right (hw:SWO lt) {k:Nat} (h:PS lt a0 b0 m n l s) (hs:b0≤l.size) (hp:Km lt m n k s) (hq:PermIn (k+1) n s s') (Gl:SortedIn lt (k+1) n s'):PS lt a0 b0 m k l s':=by
 obtain ⟨h1,h2,lo,up⟩:=hp
 have hsz:s.size=l.size:=h.hp.1
 have W0:n≤s.size:=by have:=h.hb;omega
 have SN:PermIn m n s s':=permIn_mono _ _ _ _ _ _ (by omega) (Nat.le_refl _) W0 hq
 have h':=h.perm hs SN
 have ek:s'[k]! =s[k]! :=hq.2.1 k (.inl (by omega))
 have lo':∀i,m≤i→i<k→lt s'[i]! s[k]! =true:=fun i g1 g2=>by rw [hq.2.1 i (.inl (by omega))];exact lo i g1 g2
 have up':∀i,k<i→i<n→lt s'[i]! s[k]! =false:=fun i g1 g2=>permIn_all s s' (k+1) n (fun x=>lt x s[k]! =false) W0 hq (fun i q1 q2=>up i (by omega) q2) i (by omega) g2
 refine ⟨h.ha,h1,by have:=h.hb;omega,h'.hp,?_,fun i j g1 g2 g3 g4=> ?_⟩
 ·
  rcases h'.below with hb|hb
  · exact .inl hb
  · exact .inr fun i q1 q2=>hb i q1 (by omega)
 ·
  by_cases hh:i<m∨n≤j
  · exact h'.out i j g1 g2 g3 hh
  ·
   rcases Nat.lt_trichotomy i k with hik|hik|hik
   ·
    rcases Nat.lt_trichotomy j k with hjk|hjk|hjk
    · omega
    · subst hjk;rw [ek];exact hw.asym (lo' i (by omega) hik)
    · exact hw.ntrans _ _ _ (up' j hjk (by omega)) (hw.asym (lo' i (by omega) hik))
   · subst hik;rw [ek];exact up' j g2 (by omega)
   · exact Gl i j (by omega) g2 (by omega)
theorem PS.S4 {k:Nat} (h:PS lt a0 b0 m n l s) (hk:k≤n):Below lt m k s:=h.below.imp id fun hb i g1 g2=>hb i g1 (by omega)
theorem Km.S5 {k:Nat} (hp:Km lt m n k s):Below lt (k+1) n s:= .inr fun i g1 g2=>by rw [show k+1-1=k by omega];exact hp.up i (by omega) g2
theorem La (hw:SWO lt) (h:∀k,m<k→k<n→lt s[k]! s[k-1]! =false):SortedIn lt m n s:=by
 intro i j h1 h2 h3
 obtain ⟨d,rfl⟩:∃d,j=i+d+1:=⟨j-i-1,by omega⟩
 induction d with
 |zero=>exact h (i+0+1) (by omega) h3
 |succ d ih=>exact hw.ntrans _ _ _ (h (i+(d+1)+1) (by omega) h3) (by rw [show i+(d+1)+1-1=i+d+1 by omega];exact ih (by omega) (by omega))
end
section
variable {β:Type} [Inhabited β] {c:β×β→Int} {st:List β}
def Ut (c:β×β→Int) (a b:Int) (l:List β):Prop:=∀k,a.toNat<k→k<b.toNat→Bs c l.toArray[k]! l.toArray[k-1]! =false
theorem Ut.start (a:Int) (l:List β) (h0:0≤a):Ut c a (a+1) l:=fun k h1 h2=>by omega
theorem Ut.go {a i k:Int} (h:Ut c a i st) (h0:0≤a) (ha:a<i) (hk:k=i-1) (hi:i.toNat<st.length) (hk':k.toNat<st.length) (hc:0≤c (st[i.toNat]'hi,st[k.toNat]'hk')):Ut c a (i+1) st:=fun m h1 h2=>by
 rcases Nat.lt_or_ge m i.toNat with hm|hm
 · exact h m h1 hm
 ·
  have e:m=i.toNat:=by omega
  subst e
  rw [show i.toNat-1=k.toNat by omega,gx hi,gx hk'];exact F2 (by omega)
theorem Ut.sorted {a b:Int} (hw:SWO (Bs c)) (h:Ut c a b st):SortedIn (Bs c) a.toNat b.toNat st.toArray:=La hw h
end
section
variable {β:Type} [Inhabited β]
def CM (a b:Int) (l st:List β):Prop:=PermIn a.toNat b.toNat l.toArray st.toArray
def De (c:β×β→Int) (a b:Int) (l st:List β):Prop:=PermIn a.toNat b.toNat l.toArray st.toArray∧SortedIn (Bs c) a.toNat b.toNat st.toArray
theorem CM.len {a b:Int} {l st:List β} (h:CM a b l st):st.length=l.length:=by have:=h.1;simpa using this
theorem De.len {c:β×β→Int} {a b:Int} {l st:List β} (h:De c a b l st):st.length=l.length:=by have:=h.1.1;simpa using this
def Kn (c:β×β→Int) (hi first lo:Int) (l st:List β):Prop:=st.length=l.length∧st.toArray=siftDown (Bs c) hi.toNat first.toNat lo.toNat l.toArray
theorem Kn.len {c:β×β→Int} {hi first lo:Int} {l st:List β} (h:Kn c hi first lo l st):st.length=l.length:=h.1
abbrev PE (c:β×β→Int) (a b pv:Int) (l:List β):Nat×Array β:=partitionEqual (Bs c) l.toArray a.toNat b.toNat pv.toNat
abbrev PA (c:β×β→Int) (a b pv:Int) (l:List β):Nat×Bool×Array β:=partition (Bs c) l.toArray a.toNat b.toNat pv.toNat
def Nq (c:β×β→Int) (a b pv:Int) (l st:List β):Prop:=st.length=l.length∧st.toArray=(PE c a b pv l).2
def Lq (c:β×β→Int) (a b pv:Int) (l st:List β):Prop:=st.length=l.length∧st.toArray=(PA c a b pv l).2.2
theorem Nq.len {c:β×β→Int} {a b pv:Int} {l st:List β} (h:Nq c a b pv l st):st.length=l.length:=h.1
theorem Lq.len {c:β×β→Int} {a b pv:Int} {l st:List β} (h:Lq c a b pv l st):st.length=l.length:=h.1
theorem S6 {c:β×β→Int} {a b pv:Int} {l:List β} (h0:0≤a) (hab:a<b) (ha:a.toNat<l.length) (hp:pv.toNat<l.length):YK c a (a+1) (b-1) ((l.set a.toNat (l[pv.toNat]'hp)).set pv.toNat (l[a.toNat]'ha)).toArray=PE c a b pv l:=by
 unfold YK PE partitionEqual
 rw [sw ha hp,show (a+1).toNat=a.toNat+1 by omega,show (b-1).toNat=b.toNat-1 by omega]
theorem Hw {c:β×β→Int} {a b pv:Int} {l:List β} (h0:0≤a) (hab:a<b) (ha:a.toNat<l.length) (hp:pv.toNat<l.length) {st:List β} {j:Int}
  (h:XH c a (a+1) (b-1) ((l.set a.toNat (l[pv.toNat]'hp)).set pv.toNat (l[a.toNat]'ha)).toArray=(j.toNat,st.toArray)) (hj:j.toNat<st.length) (has:a.toNat<st.length):(PA c a b pv l).1=j.toNat∧((st.set j.toNat (st[a.toNat]'has)).set a.toNat (st[j.toNat]'hj)).toArray=(PA c a b pv l).2.2:=by
 unfold XH at h
 rw [sw ha hp,show (a+1).toNat=a.toNat+1 by omega,show (b-1).toNat=b.toNat-1 by omega] at h
 unfold PA
 rw [partition_fst,partition_arr,h,sw hj has]
 exact ⟨rfl,rfl⟩
theorem CM.refl (a b:Int) (l:List β):CM a b l l:=permIn_refl _ _ _
theorem CM.swap {a b i j:Int} {l st:List β} (h:CM a b l st) (hi:i.toNat<st.length) (hj:j.toNat<st.length) (h1:a.toNat≤i.toNat) (h2:i.toNat<b.toNat) (h3:a.toNat≤j.toNat) (h4:j.toNat<b.toNat) (hb:b.toNat≤l.length):
  CM a b l ((st.set i.toNat (st[j.toNat]'hj)).set j.toNat (st[i.toNat]'hi)):=by
 unfold CM
 rw [sw hi hj]
 exact permIn_trans _ _ _ _ _ h (swp_permIn _ _ _ _ _ h1 h2 h3 h4 (by have:=h.len;simp;omega))
theorem CM.trans {a b:Int} {l m st:List β} (h:CM a b l m) (k:CM a b m st):CM a b l st:=permIn_trans _ _ _ _ _ h k
theorem Ls {c:β×β→Int} (hw:SWO (Bs c)) {a b pv:Int} {l st:List β} (h:Lq c a b pv l st) (h0:0≤a) (F_:a≤pv) (Nk:pv<b) (hb:b.toNat≤l.length):CM a b l st∧Km (Bs c) a.toNat b.toNat (PA c a b pv l).1 st.toArray:=by
 obtain ⟨h1,h2,h3,h4,h5⟩:=partition_holds (Bs c) hw l.toArray a.toNat b.toNat pv.toNat (by omega) (by omega) (by simpa using hb)
 unfold CM
 rw [h.2]
 exact ⟨h3,h1,h2,h4,h5⟩
theorem PS.lJ {c:β×β→Int} (hw:SWO (Bs c)) {a0 b0:Nat} {a b pv k:Int} {l st t:List β} (h:PS (Bs c) a0 b0 a.toNat b.toNat l.toArray st.toArray) (hs:b0≤l.toArray.size) (ht:Nq c a b pv st t) (h0:0<a) (hab:a<b) (hk:k=a-1) (GJ:k.toNat<st.length) (F_:a≤pv) (Nk:pv<b) (ZT:pv.toNat<st.length) (hb:b.toNat≤st.length)
  (hc:0≤c (st[k.toNat]'GJ,st[pv.toNat]'ZT)):PS (Bs c) a0 b0 (PE c a b pv st).1 b.toNat l.toArray t.toArray∧a.toNat<(PE c a b pv st).1∧(PE c a b pv st).1≤b.toNat:=by
 have hlt:Bs c st.toArray[a.toNat-1]! st.toArray[pv.toNat]! =false:=by rw [show a.toNat-1=k.toNat by omega,gx GJ,gx ZT];exact F2 (by omega)
 have hmin:∀i,a.toNat≤i→i<b.toNat→Bs c st.toArray[i]! st.toArray[pv.toNat]! =false:=fun i h1 h2=>by
  rcases h.below with hb|hb
  · omega
  · exact hw.ntrans _ _ _ (hb i h1 h2) hlt
 obtain ⟨h1,h2,h3,h4,h5⟩:=partitionEqual_holds (Bs c) hw st.toArray a.toNat b.toNat pv.toNat (by omega) (by omega) (by simpa using hb) hmin
 refine ⟨?_,h1,h2⟩
 rw [ht.2]
 exact PS.eq hw h hs (by omega) hlt h1 h2 h3 h4 h5
theorem CM.whole {l st:List β} (h:CM 0 l.length l st):st.Perm l:=by
 have:=h.2.2
 have e:=h.len
 rwa [show ((l.length:Nat):Int).toNat=l.toArray.size by simp,show (0:Int).toNat=0 from rfl,Array.extract_size,show l.toArray.size=st.toArray.size by simp [e],Array.extract_size] at this
end
section
open Go
variable {P:Program} {L:Lg P} {n:Fm} {fz:Nat} {E:Env} {M0:Av} {w0:World} {S:Nat→Prop} {rs:List Ao} {new:Bool} {b:Nat} {T:TypeId} {ps:List Pr}
theorem St.au (j:Nat) (qs:List Pr) (hj:rs[j]? =some (AA new b T ps)) (hl:LY ps qs) {a:Act} {w:World} (h:St n E (Hp M0 w0 S rs) a w):St n E (Hp M0 w0 S (rs.set j (AA new b T qs))) a w:=by
 obtain ⟨M,h1,h2,h3,h4⟩:=h
 have h4:Am M0 w0 S rs M w:=h4
 obtain ⟨hM,cs,hb,hc,ho⟩:=(h4.hold _ (List.mem_of_getElem? hj)).1
 exact ⟨M,h1,h2,h3,h4.Bt hj rfl rfl ⟨hM,cs,hb,hl.hl hc,ho⟩⟩
theorem Tr.au {Q:Exit→Act→World→Prop} {c:Code} (j:Nat) (qs:List Pr) (hj:rs[j]? =some (AA new b T ps)) (hl:LY ps qs) (k:Tr L n E (Hp M0 w0 S (rs.set j (AA new b T qs))) c Q):Tr L n E (Hp M0 w0 S rs) c Q:=Tr.conv (fun _ _ hs=>hs.au j qs hj hl) k
end
end Cp
namespace Cp
open Go Go.RowKit Go.Great
section
variable {P:Program} {L:Lg P} {n:Fm} {fz:Nat} {E:Env} {I:B5} {Q:Exit→Act→World→Prop}
theorem Tr.Mr {α0:Type} (K:Env) (hK:Bp E K) (F:α0→Env) (Ii:α0→B5) (C:α0→Prop) {x y:Code} (h:Tr L n E I x (Exit.then (fun a w=>∃x0,C x0∧St n (F x0++K) (Ii x0) a w) Q))
  (k:∀x0,C x0→Tr L n (F x0++K) (Ii x0) y Q):Tr L n E I (.seq x y) Q:=
 Tr.cut (fun y:α0=>F y++K) (fun y=>Ii y) (fun y=>C y) (Tr.post h fun e a w h=>by cases e<;>first|exact h|(obtain ⟨x0,h1,h2⟩:=h;exact ⟨x0,h1,h2⟩)) fun y hy=>k y hy
theorem Tr.VS {α0:Type} (K:Env) (hK:Bp E K) (F:α0→Value→Env) (Ii:α0→Value→B5) (C:α0→Prop) {x y:Code} (h:Tr L n E I x (Exit.then (fun a w=>∃x0 v0,C x0∧St n (F x0 v0++K) (Ii x0 v0) a w) Q))
  (k:∀x0 v0,C x0→Tr L n (F x0 v0++K) (Ii x0 v0) y Q):Tr L n E I (.seq x y) Q:=
 Tr.cut (fun y:α0×Value=>F y.1 y.2++K) (fun y=>Ii y.1 y.2) (fun y=>C y.1) (Tr.post h fun e a w h=>by cases e<;>first|exact h|(obtain ⟨x0,v0,h1,h2⟩:=h;exact ⟨(x0,v0),h1,h2⟩)) fun y hy=>k y.1 y.2 hy
theorem Tr.VT {α0 α1:Type} (K:Env) (hK:Bp E K) (F:α0→α1→Env) (Ii:α0→α1→B5) (C:α0→α1→Prop) {x y:Code} (h:Tr L n E I x (Exit.then (fun a w=>∃x0 x1,C x0 x1∧St n (F x0 x1++K) (Ii x0 x1) a w) Q))
  (k:∀x0 x1,C x0 x1→Tr L n (F x0 x1++K) (Ii x0 x1) y Q):Tr L n E I (.seq x y) Q:=
 Tr.cut (fun y:α0×α1=>F y.1 y.2++K) (fun y=>Ii y.1 y.2) (fun y=>C y.1 y.2) (Tr.post h fun e a w h=>by cases e<;>first|exact h|(obtain ⟨x0,x1,h1,h2⟩:=h;exact ⟨(x0,x1),h1,h2⟩)) fun y hy=>k y.1 y.2 hy
theorem Tr.VU {α0 α1 α2:Type} (K:Env) (hK:Bp E K) (F:α0→α1→α2→Env) (Ii:α0→α1→α2→B5) (C:α0→α1→α2→Prop) {x y:Code} (h:Tr L n E I x (Exit.then (fun a w=>∃x0 x1 x2,C x0 x1 x2∧St n (F x0 x1 x2++K) (Ii x0 x1 x2) a w) Q))
  (k:∀x0 x1 x2,C x0 x1 x2→Tr L n (F x0 x1 x2++K) (Ii x0 x1 x2) y Q):Tr L n E I (.seq x y) Q:=
 Tr.cut (fun y:α0×α1×α2=>F y.1 y.2.1 y.2.2++K) (fun y=>Ii y.1 y.2.1 y.2.2) (fun y=>C y.1 y.2.1 y.2.2) (Tr.post h fun e a w h=>by cases e<;>first|exact h|(obtain ⟨x0,x1,x2,h1,h2⟩:=h;exact ⟨(x0,x1,x2),h1,h2⟩)) fun y hy=>k y.1 y.2.1 y.2.2 hy
theorem Tr.VV {α0 α1 α2 α3:Type} (K:Env) (hK:Bp E K) (F:α0→α1→α2→α3→Env) (Ii:α0→α1→α2→α3→B5) (C:α0→α1→α2→α3→Prop) {x y:Code} (h:Tr L n E I x (Exit.then (fun a w=>∃x0 x1 x2 x3,C x0 x1 x2 x3∧St n (F x0 x1 x2 x3++K) (Ii x0 x1 x2 x3) a w) Q))
  (k:∀x0 x1 x2 x3,C x0 x1 x2 x3→Tr L n (F x0 x1 x2 x3++K) (Ii x0 x1 x2 x3) y Q):Tr L n E I (.seq x y) Q:=
 Tr.cut (fun y:α0×α1×α2×α3=>F y.1 y.2.1 y.2.2.1 y.2.2.2++K) (fun y=>Ii y.1 y.2.1 y.2.2.1 y.2.2.2) (fun y=>C y.1 y.2.1 y.2.2.1 y.2.2.2) (Tr.post h fun e a w h=>by cases e<;>first|exact h|(obtain ⟨x0,x1,x2,x3,h1,h2⟩:=h;exact ⟨(x0,x1,x2,x3),h1,h2⟩)) fun y hy=>k y.1 y.2.1 y.2.2.1 y.2.2.2 hy
end
section
variable {P:Program} {L:Lg P} {n:Fm} {fz:Nat} {E:Env} {M0:Av} {w0:World} {S:Nat→Prop} {rs:List Ao} {β:Type} {e:TypeId} {sz:Nat} {f:β→List Pr} {Φ:List β→Prop} {v:Value}
def Ko (e:TypeId) (sz:Nat) (f:β→List Pr) (Φ:List β→Prop) (v:Value):Ao where
 Ee:=match v with| .slice (some a) _ _=>some a.block|_=>none
 new:=true
 h M w:=∃st:List β,Φ st∧(Al e sz (st.map f) v).h M w
 st M w M' w' he hk h:=let ⟨st,h1,h2⟩:=h;⟨st,h1,(Al e sz (st.map f) v).st M w M' w' he hk h2⟩
theorem A5.VW {g:FuncId} {l:List β} {ps:List Pr} {res:Pr} [Ht res] (h0:l=[]→Be P g (is (.slice none 0 0)::ps) res∧Φ [])
  (h1:∀(b cap:Nat) (sp:List Value),A5 P g (is (.slice (some ⟨b,0,none⟩) l.length cap)::ps) res (AA true b e ((l.map f).flatten++sp.map is)) (fun _=>CU b e f Φ (sp.map is)))
  (hl:∀st,Φ st→st.length=l.length) (hE:Entry P g):A5 P g (is v::ps) res (Al e sz (l.map f) v) (fun _=>Ko e sz f Φ v):=by
 refine ⟨hE,fun M0 w0 S rs M w vs hI hv=> ?_⟩
 have hb0:=hI.hold _ (List.mem_cons_self ..)
 rcases hb0.1 with ⟨hnil,rfl⟩|Mp
 ·
  have Iq:l=[]:=by simpa using hnil
  obtain ⟨lK,lM⟩:=h0 Iq
  refine (lK.2 M w vs hI.bd hv).mono ?_
  rintro e' w' ⟨u,rfl,h2,h3⟩
  have JG:Am M0 w0 S (Al e sz (l.map f) (.slice none 0 0)::rs) M w':=(Hp M0 w0 S _).st _ _ _ h3 hI
  exact ⟨u,M,rfl,Ht.free _ _ _ _ h2,Ext.below h3,JG.Bt (i:=0) rfl rfl rfl ⟨[],lM,.inl ⟨rfl,rfl⟩⟩⟩
 ·
  obtain ⟨b,cap,spare,rfl,hnc,hcm,hsp,O_⟩:=Mp
  have hC:=hI.Bt (i:=0) (r':=AA true b e ((l.map f).flatten++spare.map is)) rfl rfl rfl O_
  have Uq:(l.map f).length=l.length:=List.length_map ..
  rw [Uq] at hv
  refine ((h1 b cap spare).2 M0 w0 S rs M w vs hC hv).mono ?_
  rintro e' w' ⟨u,M',rfl,h2,h3,h4⟩
  refine ⟨u,M',rfl,h2,h3,?_⟩
  obtain ⟨st,hp,hst⟩:=(h4.hold _ (List.mem_cons_self ..)).1
  have hlen:(st.map f).length=(l.map f).length:=by rw [List.length_map,List.length_map,hl st hp]
  exact h4.Bt (i:=0) rfl rfl rfl ⟨st,hp,.inr ⟨b,cap,spare,by rw [hlen],by rw [hlen];exact hnc,hcm,by rw [hlen];exact hsp,hst⟩⟩
theorem St.S7 (j d:Nat) {p:Pr} (hj:rs[j]? =some (Ko e sz f Φ v)) (hd:E.lookup d=some (Aq v p)) (hf:∀x,(f x).length=sz) {a:Act} {w:World} (hs:St n E (Hp M0 w0 S rs) a w):
  ∃st:List β,Φ st∧St n ((d,Aq v (slice sz (st.map f)))::E) (Hp M0 w0 S (rs.set j (BR e sz v))) a w:=by
 obtain ⟨M,h1,h2,h3,h4⟩:=hs
 have h4:Am M0 w0 S rs M w:=h4
 have hjl:j<rs.length:=by rcases Nat.lt_or_ge j rs.length with h|h;exact h;rw [List.getElem?_eq_none h] at hj;cases hj
 obtain ⟨st,hp,hst⟩:=(h4.hold _ (List.mem_of_getElem? hj)).1
 have h5:=h4.Bt (r':=Al e sz (st.map f) v) hj rfl rfl hst
 obtain ⟨M',h6,h7,h8⟩:=Am.RP h5 (List.getElem?_set_self hjl) (Aj hf)
 rw [List.set_set] at h7
 refine ⟨st,hp,M',h1,h2,fun s q hq=> ?_,h7⟩
 simp only [List.lookup] at hq
 split at hq
 ·
  rename_i e1
  have:s=d:=by simpa using e1
  subst this
  simp only [Option.some.injEq] at hq
  subst hq
  have h9:=(h3 _ _ hd).1
  exact ⟨h9,by rw [h9];exact h8⟩
 · exact q.st _ _ _ _ _ h6 (h3 s q hq)
theorem TO.S7 {Q:Exit→Act→World→Prop} {ops:Array Oper} {r:List Oper} (j d:Nat) {p:Pr} (hj:rs[j]? =some (Ko e sz f Φ v)) (hd:E.lookup d=some (Aq v p)) (hf:∀x,(f x).length=sz)
  (k:∀st:List β,Φ st→TO P n ops r ((d,Aq v (slice sz (st.map f)))::E) (Hp M0 w0 S (rs.set j (BR e sz v))) Q):TO P n ops r E (Hp M0 w0 S rs) Q:=
 fun m hl a w hs=>let ⟨st,h1,h2⟩:=hs.S7 j d hj hd hf;k st h1 m hl a w h2
theorem Tr.S7 {Q:Exit→Act→World→Prop} {c:Code} (j d:Nat) {p:Pr} (hj:rs[j]? =some (Ko e sz f Φ v)) (hd:E.lookup d=some (Aq v p)) (hf:∀x,(f x).length=sz)
  (k:∀st:List β,Φ st→Tr L n ((d,Aq v (slice sz (st.map f)))::E) (Hp M0 w0 S (rs.set j (BR e sz v))) c Q):Tr L n E (Hp M0 w0 S rs) c Q:=
 fun a w hs=>let ⟨st,h1,h2⟩:=hs.S7 j d hj hd hf;k st h1 a w h2
theorem Nr {rows AV:List (List Pr)} (h:rows=AV) {M:Av} {w:World} (k:(Hp M0 w0 S (Al e sz rows v::rs)).h M w):(Hp M0 w0 S (Al e sz AV v::rs)).h M w:=by subst h;exact k
theorem Hx {rows:List (List Pr)} (h:rows=[]):Pr.le (is (.slice none 0 0)) (Aq (.slice none 0 0) (lens rows.length)):=by
 subst h;exact fun _ _ _ hv=>⟨hv,⟨none,0,by rw [hv];rfl⟩⟩
theorem Gm {v:Value} {a b:Nat} (h:a=b):Pr.le (Aq v (lens a)) (Aq v (lens b)):=by subst h;exact Pr.le_refl _
end
section
variable {P:Program} {L:Lg P} {n:Fm} {fz:Nat} {E:Env} {M0:Av} {w0:World} {S:Nat→Prop} {rs:List Ao} {o:Oper}
theorem Gn {I:B5} {t e:TypeId} {x:Operand} (ho:o.op= .call { callee:= .builtin .len,args:= #[x],argTypes:= #[t] }) (ht:P.underlying t=some (.slice e)) (hx:VL E x (is (.slice none 0 0))):AS P I o E (int 0):=
 AS.le (E2 (sz:=1) (rows:=[]) ho ht (VL.le hx (AX 1))) (Pr.le_refl _)
end
section
variable {P:Program} {L:Lg P} {n:Fm} {fz:Nat} {E:Env} {M0:Av} {w0:World} {S:Nat→Prop} {rs:List Ao} {ε:Type} {res:ε→List Ao}
def GA (res:ε→List Ao) (es:List ε):List Ao:=es.flatMap res
theorem S8:∀{es:List ε} {k:Nat} {x:ε},es[k]? =some x→(GA res es).Perm (res x++GA res (es.eraseIdx k))
 |[],_,_,h=>by simp at h
 |a::es,0,x,h=>by
  simp only [List.getElem?_cons_zero,Option.some.injEq] at h
  subst h
  exact List.Perm.refl _
 |a::es,k+1,x,h=>by
  have ih:=S8 (es:=es) (k:=k) (x:=x) (by simpa using h)
  show (res a++GA res es).Perm (res x++(res a++GA res (es.eraseIdx k)))
  refine (ih.append_left (res a)).trans ?_
  rw [←List.append_assoc,←List.append_assoc]
  exact List.perm_append_comm.append_right _
theorem Qg:∀{es:List ε} {k:Nat} (x:ε),k<es.length→(res x++GA res (es.eraseIdx k)).Perm (GA res (es.set k x))
 |[],_,_,h=>absurd h (Nat.not_lt_zero _)
 |a::es,0,x,_=>List.Perm.refl _
 |a::es,k+1,x,h=>by
  have ih:=Qg (es:=es) (k:=k) x (by simpa using h)
  show (res x++(res a++GA res (es.eraseIdx k))).Perm (res a++GA res (es.set k x))
  refine List.Perm.trans ?_ (ih.append_left (res a))
  rw [←List.append_assoc,←List.append_assoc]
  exact List.perm_append_comm.append_right _
theorem S9 (es:List ε) (x:ε):GA res (es++[x])=GA res es++res x:=by unfold GA;simp
theorem Kq {a b c:List Ao} (h:b.Perm c):(a++b).Perm (a++c):=h.append_left a
theorem St.perm {rs':List Ao} (hp:rs.Perm rs') {a:Act} {w:World} (h:St n E (Hp M0 w0 S rs) a w):St n E (Hp M0 w0 S rs') a w:=by
 obtain ⟨M,h1,h2,h3,h4⟩:=h
 exact ⟨M,h1,h2,h3,Am.perm hp h4⟩
theorem Tr.focus {Q:Exit→Act→World→Prop} {c:Code} (Bf:List Ao) {es:List ε} {k:Nat} {x:ε} (hx:es[k]? =some x) (Lt:rs=Bf++GA res es) (kk:Tr L n E (Hp M0 w0 S (res x++(Bf++GA res (es.eraseIdx k)))) c Q):Tr L n E (Hp M0 w0 S rs) c Q:=
 Tr.conv (fun _ _ hs=>hs.perm (by
  subst Lt
  refine (Kq (S8 hx)).trans ?_
  rw [←List.append_assoc,←List.append_assoc]
  exact List.perm_append_comm.append_right _)) kk
theorem Hy (Bf:List Ao) {es:List ε} {k:Nat} (x:ε) (hk:k<es.length) (Lt:rs=res x++(Bf++GA res (es.eraseIdx k))):rs.Perm (Bf++GA res (es.set k x)):=by
 subst Lt
 refine List.Perm.trans ?_ (Kq (Qg x hk))
 rw [←List.append_assoc,←List.append_assoc]
 exact List.perm_append_comm.append_right _
theorem Fin.Jr {Q:Exit→Act→World→Prop} {e:Exit} (Bf:List Ao) {es:List ε} {k:Nat} (x:ε) (hk:k<es.length) (Lt:rs=res x++(Bf++GA res (es.eraseIdx k))) (kk:Fin n E (Hp M0 w0 S (Bf++GA res (es.set k x))) Q e):Fin n E (Hp M0 w0 S rs) Q e:=
 Fin.conv (fun _ _ hs=>hs.perm (Hy Bf x hk Lt)) kk
theorem Tr.Jr {Q:Exit→Act→World→Prop} {c:Code} (Bf:List Ao) {es:List ε} {k:Nat} (x:ε) (hk:k<es.length) (Lt:rs=res x++(Bf++GA res (es.eraseIdx k))) (kk:Tr L n E (Hp M0 w0 S (Bf++GA res (es.set k x))) c Q):Tr L n E (Hp M0 w0 S rs) c Q:=
 Tr.conv (fun _ _ hs=>hs.perm (Hy Bf x hk Lt)) kk
theorem Ir {β:Type} {f:β→List Pr} {l:List β} {qs:List Pr} {sz:Nat} (hf:∀x,(f x).length=sz) {i j:Nat} {x:β} (h:l[i]? =some x) (hj:j<sz):((l.map f).flatten++qs)[i*sz+j]? =(f x)[j]? :=by
 have h1:=Kg (qs:=qs) hf h
 rw [←List.getElem?_drop]
 rw [←h1,List.getElem?_take,if_pos hj]
theorem HO {β:Type} {f:β→List Pr} {l:List β} {qs:List Pr} {sz:Nat} (hf:∀x,(f x).length=sz) {i j:Nat} {x y:β} {p:Pr} (h:l[i]? =some x) (hj:j<sz) (hy:(f x).set j p=f y):
  ((l.map f).flatten++qs).take (i*sz+j)++[p]++((l.map f).flatten++qs).drop (i*sz+j+1)=((l.set i y).map f).flatten++qs:=by
 have CS:i<l.length:=by rcases Nat.lt_or_ge i l.length with h'|h';exact h';rw [List.getElem?_eq_none h'] at h;cases h
 have h1:=Io (f:=f) (qs:=qs) (x:=y) hf CS
 have h2:=Kg (qs:=qs) hf h
 have hfl:=hf x
 have lN:=hf y
 rw [←h1]
 generalize hz:(l.map f).flatten++qs=z at*
 have hzl:i*sz+sz≤z.length:=by
  have:=congrArg List.length h2
  rw [List.length_take,List.length_drop,hfl] at this
  omega
 have e1:z.take (i*sz+j)++[p]++z.drop (i*sz+j+1)=z.set (i*sz+j) p:=by
  rw [List.set_eq_take_append_cons_drop,if_pos (by omega)];simp
 rw [e1]
 refine List.ext_getElem? fun m=> ?_
 have QH:∀q,q<sz→z[i*sz+q]? =(f x)[q]? :=fun q hq=>by rw [←h2,List.getElem?_take,if_pos hq,List.getElem?_drop]
 have je:(z.take (i*sz)).length=i*sz:=by rw [List.length_take];omega
 rw [List.append_assoc]
 rcases Nat.lt_or_ge m (i*sz) with hm|hm
 · rw [List.getElem?_set_ne (by omega),List.getElem?_append_left (by omega),List.getElem?_take,if_pos hm]
 ·
  obtain ⟨q,rfl⟩:∃q,m=i*sz+q:=⟨m-i*sz,by omega⟩
  rw [List.getElem?_append_right (by omega),je,Nat.add_sub_cancel_left]
  rcases Nat.lt_or_ge q sz with hq|hq
  ·
   rw [List.getElem?_append_left (by omega),←hy]
   by_cases lO:q=j
   ·
    subst lO
    rw [List.getElem?_set_self (by omega),List.getElem?_set_self (by omega)]
   · rw [List.getElem?_set_ne (by omega),List.getElem?_set_ne (by omega),QH q hq]
  ·
   rw [List.getElem?_append_right (by omega),lN,List.getElem?_drop,List.getElem?_set_ne (by omega)]
   congr 1;omega
theorem Tr.av {Q:Exit→Act→World→Prop} {c:Code} {e:TypeId} {sz:Nat} {rows:List (List Pr)} {v:Value} (j:Nat) (hj:rs[j]? =some (Al e sz rows v)) (hne:rows≠[])
  (k:∀(b cap:Nat) (sp:List Value),v= .slice (some ⟨b,0,none⟩) rows.length cap→rows.length≤cap→cap≤maxLen→sp.length=(cap-rows.length)*sz→Tr L n E (Hp M0 w0 S (rs.set j (AA true b e (rows.flatten++sp.map is)))) c Q):Tr L n E (Hp M0 w0 S rs) c Q:=by
 intro a w hs
 obtain ⟨M,h1,h2,h3,h4⟩:=hs
 have h4:Am M0 w0 S rs M w:=h4
 rcases (h4.hold _ (List.mem_of_getElem? hj)).1 with ⟨h5,_⟩|⟨b,cap,sp,rfl,h5,h6,h7,h8⟩
 · exact absurd h5 hne
 · exact k b cap sp rfl h5 h6 h7 a w ⟨M,h1,h2,h3,h4.Bt hj rfl rfl h8⟩
theorem St.Fi {e:TypeId} {sz b cap m:Nat} {rows:List (List Pr)} {sp:List Value} (j:Nat) (hj:rs[j]? =some (AA true b e (rows.flatten++sp.map is))) (hm:rows.length=m) (h1:m≤cap) (h2:cap≤maxLen) (h3:sp.length=(cap-m)*sz) {a:Act} {w:World} (h:St n E (Hp M0 w0 S rs) a w):St n E (Hp M0 w0 S (rs.set j (Al e sz rows (.slice (some ⟨b,0,none⟩) m cap)))) a w:=by
 subst hm
 obtain ⟨M,g1,g2,g3,g4⟩:=h
 have g4:Am M0 w0 S rs M w:=g4
 exact ⟨M,g1,g2,g3,g4.Bt hj rfl rfl (.inr ⟨b,cap,sp,rfl,h1,h2,h3,(g4.hold _ (List.mem_of_getElem? hj)).1⟩)⟩
theorem Fin.Fi {Q:Exit→Act→World→Prop} {x:Exit} {e:TypeId} {sz b cap m:Nat} {rows:List (List Pr)} {sp:List Value} (j:Nat) (hj:rs[j]? =some (AA true b e (rows.flatten++sp.map is))) (hm:rows.length=m) (h1:m≤cap) (h2:cap≤maxLen) (h3:sp.length=(cap-m)*sz)
  (k:Fin n E (Hp M0 w0 S (rs.set j (Al e sz rows (.slice (some ⟨b,0,none⟩) m cap)))) Q x):Fin n E (Hp M0 w0 S rs) Q x:=Fin.conv (fun _ _ hs=>hs.Fi j hj hm h1 h2 h3) k
end
section
variable {P:Program} {L:Lg P} {n:Fm} {fz:Nat} {E:Env} {M0:Av} {w0:World} {S:Nat→Prop} {rs:List Ao} {o:Oper}
theorem HD {w:World} {dT sT ty e:TypeId} {g off dLen dCap sLen sCap sz m:Nat} {a:Addr} {cur:Array Value} {t:TypeId} {cs:List Value} (hu:P.underlying dT=some (.slice e)) (hz:Ax P e=some sz)
  (hg:w.heap[g]? =some (.cells cur t (0,0))) (hm:m=Nat.min sLen dLen) (hn:cs.length=m*sz) (hsrc:∀j v,cs[j]? =some v→w.cell? (a.add j)=some v) (hfit:off+cs.length≤cur.size) (h1:∀v∈cs,v.oneCell'=true):
  (Builtin.copy_ #[dT,sT] ty #[.slice (some ⟨g,off,none⟩) dLen dCap,.slice (some a) sLen sCap]).run P w= .ok (goInt m) (w.setRow g (cur.toList.take off++cs++cur.toList.drop (off+cs.length)).toArray):=by
 have hl:=run_loadCells_list (P:=P) w a cs hsrc
 have hst:=run_storeCells_at P g off t cs 0 cur w hg (by simpa using hfit) h1
 unfold Ax at hz
 cases hq:P.info? e with
 |none=>rw [hq] at hz;cases hz
 |some i=>
  have hi:i.size=sz:=by simpa [hq] using hz
  rw [hn] at hl
  simp [Builtin.copy_,run_underlying hu,Builtin.lenOf,Builtin.firstCells,Go.sizeOf,typeInfo,hq,hi,←hm,hl,hst]
theorem FO {dT sT e:TypeId} {x y:Operand} {j:Nat} {new:Bool} {b off m cap sz d:Nat} {T:TypeId} {ps ps':List Pr} {rows:List (List Pr)} (hg:o.guard=none) (hd:o.dst=some d) (ho:o.op= .call { callee:= .builtin .copy,args:= #[x,y],argTypes:= #[dT,sT] })
  (ht:P.underlying dT=some (.slice e)) (hz:Ax P e=some sz) (hsz:0<sz) (hx:VL E x (is (.slice (some ⟨b,off,none⟩) m cap))) (hy:VL E y (slice sz rows)) (hpos:0<rows.length) (hm:rows.length≤m) (hl:off+rows.length*sz≤ps.length)
  (hps:ps.take off++rows.flatten++ps.drop (off+rows.length*sz)=ps'):DH P M0 w0 S n j (SR.c (AA new b T ps)) (SR.c (AA new b T ps')) o E (int (rows.length:Nat)):=by
 refine ⟨hg,fun M w a rs Hh he hI hj=> ?_⟩
 have h1:a.eval x=_:=hx.ev he (by simp [ho,Op.operands,Call.operands])
 have h2:=hy.ev he (by simp [ho,Op.operands,Call.operands])
 obtain ⟨⟨_,cs,h4,h5,h6⟩,_⟩:=hI.hold _ (List.mem_of_getElem? hj)
 have Xd:=h5.length
 have h2':=h2
 obtain ⟨A',c',hv,U5,MY,SX,C6⟩:=h2
 obtain ⟨Ie,rfl⟩:∃Ie,A'=some Ie:=by
  obtain ⟨_,b,hb,_⟩:=C6 0 _ (List.getElem?_eq_getElem hpos)
  exact ⟨b,hb⟩
 rw [hv] at h2'
 obtain ⟨news,hfl,hcell⟩:=C5 hsz h2'
 have SF:=hfl.1
 have hrun:=HD (P:=P) (w:=w) (sT:=sT) (ty:=o.type) (g:=b) (off:=off) (dLen:=m) (dCap:=cap) (sLen:=rows.length) (sCap:=c') (m:=rows.length) (a:=Ie) (cur:=cs.toArray) (t:=T) (cs:=news) ht hz h4 (Nat.min_eq_left hm).symm SF (fun k u hk=>(hcell k u hk).1) (by simp [SF];omega) hfl.2.1
 have CZ:(execOp a.eval o).run P w= .ok (.value (goInt rows.length)) (w.setRow b (cs.take off++news++cs.drop (off+news.length)).toArray):=by
  simp [execOp,ho,h1,hv,resolve,invoke,builtin,hrun]
 rw [CZ]
 obtain ⟨h7, h8⟩ := Am.write (qs := ps') (cs := cs.take off ++ news ++ cs.drop (off + news.length)) hI hj (by rw [← hps, SF]; exact ((h5.take off).app (hfl.hl hsz)).app (h5.drop _))
  (fun c hc=>by
   simp only [List.mem_append] at hc
   rcases hc with (hc|hc)|hc
   · exact h6 c (List.mem_of_mem_take hc)
   · exact hfl.2.1 c hc
   · exact h6 c (List.mem_of_mem_drop hc))
 exact ⟨M,rfl,h8,h7⟩
theorem Ns {dT sT e:TypeId} {x y:Operand} {j:Nat} {new:Bool} {b off off2 m dl cap KJ sz d:Nat} {T:TypeId} {ps ps':List Pr} (hg:o.guard=none) (hd:o.dst=some d) (ho:o.op= .call { callee:= .builtin .copy,args:= #[x,y],argTypes:= #[dT,sT] })
  (ht:P.underlying dT=some (.slice e)) (hz:Ax P e=some sz) (hx:VL E x (is (.slice (some ⟨b,off,none⟩) dl cap))) {sl:Nat} (hy:VL E y (is (.slice (some ⟨b,off2,none⟩) sl KJ))) (hm:m=Nat.min sl dl) (hl:off+m*sz≤ps.length) (eC:off2+m*sz≤ps.length)
  (hps:ps.take off++(ps.drop off2).take (m*sz)++ps.drop (off+m*sz)=ps'):DH P M0 w0 S n j (SR.c (AA new b T ps)) (SR.c (AA new b T ps')) o E (int (m:Nat)):=by
 refine ⟨hg,fun M w a rs Hh he hI hj=> ?_⟩
 have h1:a.eval x=_:=hx.ev he (by simp [ho,Op.operands,Call.operands])
 have h2:a.eval y=_:=hy.ev he (by simp [ho,Op.operands,Call.operands])
 obtain ⟨⟨_,cs,h4,h5,h6⟩,_⟩:=hI.hold _ (List.mem_of_getElem? hj)
 have Xd:=h5.length
 have SF:((cs.drop off2).take (m*sz)).length=m*sz:=by rw [List.length_take,List.length_drop];omega
 have hrun:=HD (P:=P) (w:=w) (sT:=sT) (ty:=o.type) (g:=b) (off:=off) (dLen:=dl) (dCap:=cap) (sLen:=sl) (sCap:=KJ) (m:=m) (a:=⟨b,off2,none⟩) (cur:=cs.toArray) (t:=T) (cs:=(cs.drop off2).take (m*sz)) ht hz h4 hm SF (fun k u hk=>by
   rw [CH]
   rw [List.getElem?_take] at hk
   split at hk
   · rw [List.getElem?_drop] at hk;simp [World.cell?,h4,hk]
   · cases hk) (by simp [SF];omega) (fun v hv=>h6 v (List.mem_of_mem_drop (List.mem_of_mem_take hv)))
 have CZ:(execOp a.eval o).run P w= .ok (.value (goInt m)) (w.setRow b (cs.take off++(cs.drop off2).take (m*sz)++cs.drop (off+((cs.drop off2).take (m*sz)).length)).toArray):=by
  simp [execOp,ho,h1,h2,resolve,invoke,builtin,hrun]
 rw [CZ]
 obtain ⟨h7, h8⟩ := Am.write (qs := ps') (cs := cs.take off ++ (cs.drop off2).take (m * sz) ++ cs.drop (off + ((cs.drop off2).take (m * sz)).length)) hI hj (by rw [← hps, SF]; exact ((h5.take off).app ((h5.drop off2).take _)).app (h5.drop _))
  (fun c hc=>by
   simp only [List.mem_append] at hc
   rcases hc with (hc|hc)|hc
   · exact h6 c (List.mem_of_mem_take hc)
   · exact h6 c (List.mem_of_mem_drop (List.mem_of_mem_take hc))
   · exact h6 c (List.mem_of_mem_drop hc))
 exact ⟨M,rfl,h8,h7⟩
theorem Is {w:World} {tS tR e:TypeId} (ht:P.underlying tS=some (.slice e)) {size:Nat} (hz:∀w,(Go.sizeOf e).run P w= .ok size w) {a b:Addr} {la ca lb cb:Nat} (hne:a.block≠b.block) {tA tB:TypeId} {kA kB:Nat}
  (hsa:w.shape? a.block=some (tA,kA+1)) (hsb:w.shape? b.block=some (tB,kB+1)) (VX:∀c:Addr,c.block=b.block→w.frozen? c=false):
  (Extern.SlicesOverlaps.overlaps #[tS,tS] #[tR] #[.slice (some a) la ca,.slice (some b) lb cb]).run P w= .ok (.bool false) w:=by
 have hnb:(a.block !=b.block)=true:=by simpa using hne
 have gK:(a.block==b.block)=false:=by simpa using hne
 have lP:=VX b rfl
 have eD:=VX { block:=b.block,off:=kB+1 } rfl
 change Sem.run P (α := Value) (do
  let some t := (#[tS, tS] : Array TypeId)[0]? | stuck "slices.overlaps: no parameter types"
  let .slice elem ← underlying t | stuck "slices.overlaps: slice type expected"
  let size ←sizeOf elem
  match (some a:Option Addr),(some b:Option Addr) with
  |some a,some b=>
   if la=0∨lb=0∨size=0 then pure (Value.bool false)
   else if a.block !=b.block&&(←frozen a)&&(←frozen b) then unsupported .addressObserved
   else do
    if a.block != b.block then do
     noView a;noView b
     if ← mayBeOne a b then return Value.bool ((← choose (.extern "sameAddr.stringBytes" 2)) == 1)
    pure (Value.bool (a.block==b.block&&a.off<b.off+lb*size&&b.off<a.off+la*size))
  |_,_=>pure (Value.bool false)) w=_
 by_cases h0:la=0∨lb=0∨size=0
 · simp [run_underlying ht,hz,h0]
 ·
  cases lQ:w.frozen? a<;>cases gL:w.frozen? { block:=a.block,off:=kA+1 }<;>
   simp [run_underlying ht,hz,h0,hnb,gK,frozen,noView,viewAt,mayBeOne,stringish,shape,Sem.run,hsa,hsb,lQ,gL,lP,eD]
theorem PG {w:World} {a:Addr} {v:Value} (h:w.cell? a=some v):∃t k,w.shape? a.block=some (t,k+1):=by
 unfold World.cell? at h
 unfold World.shape?
 split at h
 ·
  rename_i c t mk hh
  have hc:c[a.off]? =some v:=by
   split at h
   · cases h
   · exact h
  have:a.off<c.size:=by
   rcases Nat.lt_or_ge a.off c.size with h'|h'
   · exact h'
   · rw [Array.getElem?_eq_none h'] at hc;cases hc
  exact ⟨t,c.size-1,by show some (t,c.size)=_;congr 2;omega⟩
 · cases h
theorem JN {f : FuncId} {fn : Func} {x y : Operand} {ts : Array TypeId} {tS tR e : TypeId} {rows : List (List Pr)} {j : Nat} {new : Bool} {b off m cap sz : Nat} {T : TypeId} {ps : List Pr} (ho : o.op = .call { callee := .value (.func f), args := #[x, y], argTypes := ts }) (hf : P.funcs[f]? = some fn) (hname : (fn.name == "runtime.NumGoroutine") = false)
  (hb:fn.body.isNone=true) (hn:Extern.findNext fn=none) (hex:Extern.find fn=some (Extern.SlicesOverlaps.overlaps #[tS,tS] #[tR])) (ht:P.underlying tS=some (.slice e)) (hz:Ax P e=some sz) (hsz:0<sz) (hx:VL E x (slice sz rows)) (hpos:0<rows.length) (hy:VL E y (is (.slice (some ⟨b,off,none⟩) m cap))) (hps:0<ps.length):
  F5 P M0 w0 S j (SR.c (AA new b T ps)) o E (bool false):=by
 intro M w a rs he hI hj
 have h1:=hx.ev he (by simp [ho,Op.operands,Call.operands])
 have h2:a.eval y=_:=hy.ev he (by simp [ho,Op.operands,Call.operands])
 obtain ⟨⟨hM,cs,h4,h5,h6⟩,_⟩:=hI.hold _ (List.mem_of_getElem? hj)
 have Xd:=h5.length
 obtain ⟨A',c',hv,U5,MY,SX,C6⟩:=h1
 obtain ⟨hlen,Ie,rfl,hrow⟩:=C6 0 _ (List.getElem?_eq_getElem hpos)
 obtain ⟨p0,fM⟩:∃p0,rows[0][0]? =some p0:=⟨_,List.getElem?_eq_getElem (by rw [hlen];exact hsz)⟩
 obtain ⟨u,hu,hnm,_⟩:=hrow 0 p0 fM
 obtain ⟨tA,kA,hsa⟩:=PG hu
 rw [EE] at hsa
 have hne:Ie.block≠b:=fun e1=>hnm (by rw [e1];exact hM _)
 have hsb:w.shape? b=some (T,(cs.length-1)+1):=by unfold World.shape?;rw [h4];show some (T,cs.toArray.size)=_;congr 2;simp;omega
 have VX:∀c:Addr,c.block=b→w.frozen? c=false:=fun c hc=>by unfold World.frozen?;rw [hc,h4];simp
 have lR:∀w,(Go.sizeOf e).run P w= .ok sz w:=fun w=>BZ hz w
 have lS:=Is (P:=P) (w:=w) (tR:=tR) ht lR (a:=Ie) (b:=⟨b,off,none⟩) (la:=rows.length) (ca:=c') (lb:=m) (cb:=cap) hne hsa hsb VX
 have h3:a.eval (.func f)= .func (.func f) #[] #[]:=rfl
 have hrun:(execOp a.eval o).run P w=(callFunc f #[a.eval x,a.eval y]).run P w:=by simp [execOp,ho,resolve,Deferred.ofValue,invoke,h3]
 rw [hrun,hv,h2,run_callFunc_extern hf hname hb hn hex,lS]
 exact ⟨rfl,Below.refl _ _⟩
def VY (e:TypeId) (sz m:Nat) (ps:List Pr) (v:Value):Ao where
 Ee:=match v with| .slice (some a) _ _=>some a.block|_=>none
 new:=true
 h M w:=∃(b cap:Nat) (sp:List Value),v= .slice (some ⟨b,0,none⟩) m cap∧m≤cap∧cap≤maxLen∧ps.length+sp.length=cap*sz∧(AA true b e (ps++sp.map is)).h M w
 st M w M' w' he hk h:=by
  obtain ⟨b,cap,sp,rfl,h1,h2,h3,h4⟩:=h
  exact ⟨b,cap,sp,rfl,h1,h2,h3,(AA true b e (ps++sp.map is)).st M w M' w' he hk h4⟩
theorem RY {M:Av} {w:World} {t tn ty e:TypeId} {sz bytes:Nat} {zs:List Value} {i k cap b:Nat} {j j2:Nat} {kn:IntKind} {T:TypeId} {ps:List Pr} (ht:P.underlying t=some (.slice e)) (htn:P.underlying tn=some (.int kn)) (hz:Ax P e=some sz) (hby:Bx P e=some bytes) (C1:Bb P e=some zs) (hzl:zs.length=sz) (hone:zs.all (·.oneCell')=true) (hsz:0<sz)
  (h:Am M0 w0 S rs M w) (hj:rs[j]? =some BT) (hj2:rs[j2]? =some (AA true b T ps)) (CS:i*sz≤ps.length) (hk:0<k) (hg:cap<i+k) (CY:i+k≤maxLen) (hfit:(i+k)*bytes≤140737488355328):
  ∃v' w' M',(Builtin.append_ #[t,tn] ty #[.slice (some ⟨b,0,none⟩) i cap,.int .i64 (k:Nat)]).run P w= .ok v' w'∧(lens (i+k)).h M' w' v'∧Ext M w M' w'∧Am M0 w0 S (rs.set j (VY e sz (i+k) (ps.take (i*sz)) v')) M' w':=by
 obtain ⟨⟨_,cs0,g4,g5,g6⟩,_⟩:=h.hold _ (List.mem_of_getElem? hj2)
 have nO:=g5.length
 unfold Ax at hz
 unfold Bx at hby
 unfold Bb at C1
 cases hi:P.info? e with
 |none=>rw [hi] at hz;cases hz
 |some ii=>
  rw [hi] at hz hby C1
  simp only [Option.map_some,Option.some.injEq,Option.map_eq_some_iff] at hz hby C1
  obtain ⟨z,QM,C1⟩:=C1
  have SW:z.cells.size=sz:=by rw [←hzl,←C1];simp
  have jf:(cs0.take (i*sz)).length=i*sz:=by rw [List.length_take];omega
  have hold:(Builtin.firstCells ii.size i (.slice (some ⟨b,0,none⟩) i cap)).run P w.drew= .ok (cs0.take (i*sz)).toArray w.drew:=by
   have:=run_loadCells_list (P:=P) w.drew ⟨b,0,none⟩ (cs0.take (i*sz)) (fun q u hq=>by
    rw [CH]
    rw [List.getElem?_take] at hq
    split at hq
    ·
     have hh:w.drew.heap[b]? =some (.cells cs0.toArray T (0,0)):=g4
     simp [World.cell?,hh,hq]
    · cases hq)
   rw [jf] at this
   simp only [Builtin.firstCells,hz]
   rw [Nat.mul_comm] at this ⊢
   first|exact this|(simp;exact this)
  have hrun:=Lib.run_append_grow_zeros (P:=P) w t tn ty e ii z .i64 kn ht htn hi QM (some ⟨b,0,none⟩) i cap (cs0.take (i*sz)) hold k hk (by rw [hz];exact hsz) hg (by unfold maxLen at CY;omega) (by rw [hby];have:=Nat.mul_le_mul_right bytes (show k≤i+k by omega);omega) (by rw [hby];exact growslice_fits hg hfit)
  generalize hcap:grownCap w (i+k) cap e=cap' at hrun
  have hge:i+k≤cap':=by rw [←hcap];exact grownCap_ge _ _ _ _
  have hle:cap'≤maxLen:=by rw [←hcap];exact grownCap_le_maxLen _ _ _ _ CY
  generalize az:Builtin.zeroCells z.cells k=z1 at hrun
  generalize a_:Builtin.zeroCells z.cells (cap'-(i+k))=z2 at hrun
  have LW:z1.size=k*sz:=by rw [←az,size_zeroCells,SW]
  have QH:z2.size=(cap'-(i+k))*sz:=by rw [←a_,size_zeroCells,SW]
  have fu:∀c∈z1.toList,c.oneCell'=true:=by rw [←az];exact Cz C1 hone
  have lT:∀c∈z2.toList,c.oneCell'=true:=by rw [←a_];exact Cz C1 hone
  generalize hcs:((cs0.take (i*sz)).toArray++z1++z2)=cs at hrun
  have bA:cs.toList=cs0.take (i*sz)++(z1.toList++z2.toList):=by rw [←hcs];simp
  have Nj:∀c∈cs.toList,c.oneCell'=true:=by
   intro c hc
   rw [bA] at hc
   simp only [List.mem_append] at hc
   rcases hc with hc|hc|hc
   · exact g6 c (List.mem_of_mem_take hc)
   · exact fu c hc
   · exact lT c hc
  have hb:Below w.heap.size w (w.drew.alloc (.cells cs e)):=((Below.refl _ _).drew).alloc (Nat.le_refl _) _
  have h2:=Ext.below (M:=M) hb
  have Dv:Ext M w (fun b o=>M b o∨b=w.heap.size) (w.drew.alloc (.cells cs e)):=by
   refine ⟨h2.size,fun a v hc hm=>⟨fun hx=> ?_,(h2.keep a v hc hm).2⟩,fun b o ho hp hm=>⟨fun hx=> ?_,(h2.obj b o ho hp hm).2⟩⟩
   ·
    rcases hx with hx|hx
    · exact hm hx
    · have:=C0 hc;omega
   ·
    rcases hx with hx|hx
    · exact hm hx
    · subst hx;simp at ho
  have hs1:(w.drew.alloc (.cells cs e)).heap.size=w.heap.size+1:=by simp
  refine ⟨_,_,fun b o=>M b o∨b=w.heap.size,hrun,⟨_,_,rfl⟩,Dv,?_⟩
  refine h.replace hj Dv hb.os hb.tape hb.output (fun k hk _=>hb.block k hk) rfl (fun b o hm _=> .inl hm) (fun b o hx=> ?_) ?_ rfl (fun b hbk=> ?_)
  ·
   rcases hx with hx|hx
   · have:=h.bd _ _ hx;omega
   · omega
  ·
   refine ⟨w.heap.size,cap',z1.toList++z2.toList,rfl,hge,hle,?_,fun o=> .inr rfl,cs.toList,?_,?_,Nj⟩
   · rw [List.length_take,Nat.min_eq_left CS,List.length_append,Array.length_toList,Array.length_toList,LW,QH,←Nat.add_mul,←Nat.add_mul];congr 1;omega
   ·
    have hh:(w.drew.alloc (.cells cs e)).heap[w.heap.size]? =some (.cells cs e (0,0)):=heap_alloc_new w.drew _
    rw [hh]
   · rw [bA];exact ((g5.take _).st Dv).app (JD _ _ _)
  ·
   have DN:some w.heap.size=some b:=hbk
   injection DN with e1
   subst e1
   exact ⟨by rw [hs1];omega,.inr (Nat.le_refl _)⟩
theorem TO.XI {Q:Exit→Act→World→Prop} {ops:Array Oper} {r:List Oper} {t tn e:TypeId} {x y:Operand} (j j2:Nat) {sz bytes d:Nat} {zs:List Value} {i k cap b:Nat} {kk:Int} {kn:IntKind} {T:TypeId} {ps:List Pr} (hj:rs[j]? =some BT) (hj2:rs[j2]? =some (AA true b T ps)) (hg:o.guard=none) (hd:o.dst=some d) (hn:d<n) (ho:o.op= .call { callee:= .builtin .append,args:= #[x,y],argTypes:= #[t,tn] })
  (ht:P.underlying t=some (.slice e)) (htn:P.underlying tn=some (.int kn)) (hz:Ax P e=some sz) (hby:Bx P e=some bytes) (C1:Bb P e=some zs) (hzl:zs.length=sz) (hone:zs.all (·.oneCell')=true) (hsz:0<sz)
  (hx:VL E x (is (.slice (some ⟨b,0,none⟩) i cap))) (hy:VL E y (int kk)) (hkk:kk=(k:Nat)) (CS:i*sz≤ps.length) (hk:0<k) (lU:cap<i+k) (CY:i+k≤maxLen) (hfit:(i+k)*bytes≤140737488355328)
  (kq:∀(b2 KJ:Nat) (sp:List Value),i+k≤KJ→KJ≤maxLen→(ps.take (i*sz)).length+sp.length=KJ*sz→TO P n ops r ((d,is (.slice (some ⟨b2,0,none⟩) (i+k) KJ))::E) (Hp M0 w0 S (rs.set j (AA true b2 e (ps.take (i*sz)++sp.map is)))) Q):TO P n ops (o::r) E (Hp M0 w0 S rs) Q:=
 TO.MV hg fun K M w a Hh hdf he hI hK=>by
  have hI:Am M0 w0 S rs M w:=hI
  have jg:=BX (o:=o) he
  have h1:a.eval x=_:=hx.ev jg (by simp [ho,Op.operands,Call.operands])
  have h2:a.eval y= .int .i64 kk:=hy.ev jg (by simp [ho,Op.operands,Call.operands])
  have hjl:j<rs.length:=by rcases Nat.lt_or_ge j rs.length with h|h;exact h;rw [List.getElem?_eq_none h] at hj;cases hj
  obtain ⟨v',w',M',hrun,h3,h4,h5⟩:=RY (ty:=o.type) ht htn hz hby C1 hzl hone hsz hI hj hj2 CS hk lU CY hfit
  have CZ:(execOp a.eval o).run P w= .ok (.value v') w':=by rw [hkk] at h2;simp [execOp,ho,resolve,invoke,builtin,h1,h2,hrun]
  obtain ⟨b2,KJ,sp,rfl,q1,q2,q3,q4⟩:=(h5.hold _ (List.mem_of_getElem? (List.getElem?_set_self hjl))).1
  have h6:Am M0 w0 S (rs.set j (AA true b2 e (ps.take (i*sz)++sp.map is))) M' w':=by
   have:=h5.Bt (r':=AA true b2 e (ps.take (i*sz)++sp.map is)) (List.getElem?_set_self hjl) rfl rfl q4
   rwa [List.set_set] at this
  have gF:KF P M0 w0 S o a M w (is (.slice (some ⟨b2,0,none⟩) (i+k) KJ)) j (SR.c (AA true b2 e (ps.take (i*sz)++sp.map is))) rs ((execOp a.eval o).run P w):=by
   rw [CZ];exact ⟨M',rfl,h4,h6⟩
  refine Gf gF fun v w'' lV hv lW JG=>hK _ _ _ _ (kq b2 KJ sp q1 q2 q3) ⟨lV,by rw [BN];exact Hh,by rw [put_defers];exact hdf,?_,JG⟩
  intro s q hq
  simp only [List.lookup] at hq
  by_cases hs:s=d
  · subst hs;simp at hq;subst hq;rw [hd,A_ (by rw [Hh];exact hn)];exact hv
  · rw [show (s==d)=false by simpa using hs] at hq;rw [hd,BD hs];exact q.st _ _ _ _ _ lW (he s q hq)
end
end Cp
