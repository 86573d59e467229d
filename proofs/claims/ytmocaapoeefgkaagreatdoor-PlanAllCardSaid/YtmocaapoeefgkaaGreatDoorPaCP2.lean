/-
  Part 2 of the texts that prove this claim, merged.
-/
import Derived.ChangeArms
import Derived.OpenShut
import Derived.ChangeSame
import Derived.RowKit
import Derived.ProofKit
import Derived.Laws.MakeOwn
import Derived.Test.YtmocaapoeefgkaaGreatDoorProg
import Derived.KernelRfl
import Derived.Lib.ConvBytes
import Derived.Lib.Bytealg
import Derived.Laws.StructEq
import Derived.Laws.Externs
import Derived.Lib.AtoiErrMem
import Derived.Laws.IdiomRangeMap
import Derived.Sort.LotA
import Derived.Sort.LotB
import Derived.Sort.LotC
import Derived.Lib.AppendZeros
import Derived.Lib.AppendZerosOnto
import Derived.Test.YtmocaapoeefgkaaGreatDoorPaCP1
set_option linter.all false
set_option maxRecDepth 40000
set_option maxHeartbeats 16000000
namespace Cp
open Go Go.RowKit Go.Great Go.ChangeShapes Go.WideShapes
def gA:Av:=fun _ _=>False
theorem tM (w:World):Bd gA w:=fun _ _ h=>h.elim
def Iy (P:Program) (t:TypeId) {α:Type} (ok:α→Prop) (f:α→List Pr):Prop:=
 ∀(H:Type) (enc:TypeId×Value→H) (w:World) (fuel:Nat) (cs:List Value) (x:DataW H×List MemPlace),DataW.trod enc P w 0 (fun _=>true) true fuel t cs=some x→∃a,ok a∧HL gA w (f a) cs∧∀c∈cs,c.oneCell'=true
theorem Iy.map {P:Program} {t:TypeId} {α β:Type} {ok:α→Prop} {f:α→List Pr} {ok':β→Prop} {f':β→List Pr} (h:Iy P t ok f) (g:α→β) (h1:∀a,ok a→ok' (g a)) (h2:∀a,f' (g a)=f a):Iy P t ok' f':=by
 intro H enc w fuel cs x hx
 obtain ⟨a,h3,h4,h5⟩:=h H enc w fuel cs x hx
 exact ⟨g a,h1 a h3,by rw [h2];exact h4,h5⟩
theorem J7 {P:Program} {t:TypeId} {k:IntKind} (ht:P.underlying t=some (.int k)):Iy P t (fun n:Int=>(Lit.int k n).wf=true) (fun n=>[is (.int k n)]):=by
 intro H enc w fuel cs x hx
 obtain ⟨n,rfl,_,hw⟩:=DataW.trod_int ht hx
 exact ⟨n,hw,⟨rfl,trivial⟩,by simp [Value.oneCell']⟩
theorem HL.len {M:Av} {w:World}:∀{ps:List Pr} {vs:List Value},HL M w ps vs→ps.length=vs.length
 |[],[],_=>rfl
 |p::ps,v::vs,h=>by simp [HL.len h.2]
 |[],_::_,h=>h.elim
 |_::_,[],h=>h.elim
theorem HL.nth {M:Av} {w:World}:∀{ps:List Pr} {vs:List Value} (j:Nat) (p:Pr),HL M w ps vs→ps[j]? =some p→∃v,vs[j]? =some v∧p.h M w v
 |p::ps,v::vs,0,q,h,hj=>by simp at hj;subst hj;exact ⟨v,rfl,h.1⟩
 |p::ps,v::vs,j+1,q,h,hj=>by simpa using HL.nth j q h.2 Fo
 |[],[],_,_,_,hj=>by simp at hj
 |[],_::_,_,_,h,_=>h.elim
 |_::_,[],_,_,h,_=>h.elim
theorem Pc {H:Type} {enc:TypeId×Value→H} {P:Program} {w:World} {e:TypeId} {α:Type} {ok:α→Prop} {f:α→List Pr} (he:Iy P e ok f) {sz:Nat} (hc:P.cellsOf e=sz) {a:Addr} {m:Nat}:
  ∀(len:Nat),(∀i,i<len→∃y,(w.cells? 0 (a.add (i*sz)) sz).bind (DataW.trod enc P w 0 (fun _=>true) true m e)=some y)→
   ∃l:List α,l.length=len∧(∀z∈l,ok z)∧∀(i:Nat) z,l[i]? =some z→(f z).length=sz∧Row gA w a (i*sz) (f z)
 |0,_=>⟨[],rfl,by simp,by simp⟩
 |len+1,h=>by
  obtain ⟨l,h1,h2,h3⟩:=Pc he hc len (fun i hi=>h i AA)
  obtain ⟨y,hy⟩:=h len AA
  obtain ⟨cs,hcs,hy⟩:=Option.bind_eq_some_iff.1 hy
  obtain ⟨z,hz,hl,h1c⟩:=he H enc w m cs y hy
  obtain ⟨_,hlen,hat⟩:=World.cells?_some hcs
  refine ⟨l++[z],by simp [h1],?_,fun i u hu=> ?_⟩
  ·
   intro u hu
   rcases List.mem_append.1 hu with hu|hu
   · exact h2 u hu
   · rw [List.mem_singleton.1 hu];exact hz
  ·
   rcases Nat.lt_trichotomy i len with hi|hi|hi
   ·
    rw [List.getElem?_append_left AA] at hu
    exact h3 i u hu
   ·
    subst hi
    rw [List.getElem?_append_right AA,h1] at hu
    simp at hu;subst hu
    have hfl:(f z).length=sz:=by rw [hl.len,hlen]
    refine ⟨hfl,fun j p hp=> ?_⟩
    obtain ⟨v,hv,fR⟩:=hl.nth j p hp
    have hj:j<sz:=by
     rcases Nat.lt_or_ge j (f z).length with h'|h'
     · omega
     · rw [List.getElem?_eq_none h'] at hp;cases hp
    refine ⟨v,?_,fun hf=>hf,h1c v (List.mem_of_getElem? hv),fR⟩
    rw [←hv,←hat j hj]
    rw [add_add]
   · rw [List.getElem?_eq_none (by simp [h1];omega)] at hu;cases hu
theorem Nf {P:Program} {t e:TypeId} {α:Type} {ok:α→Prop} {f:α→List Pr} {sz:Nat} (ht:P.underlying t=some (.slice e)) (hc:P.cellsOf e=sz) (he:Iy P e ok f):
  Iy P t (fun l:List α=>(∀z∈l,ok z)∧l.length≤maxLen) (fun l=>[slice sz (l.map f)]):=by
 intro H enc w fuel cs x hx
 rcases DataW.trod_slice ht hx with ⟨rfl,_⟩|⟨a,len,cap,elems,rest,n,rfl,rfl,_,_,hl,hm,hel,hat,_⟩
 · exact ⟨[],⟨by simp,by simp⟩,⟨⟨none,0,rfl,by simp,by simp,fun _=>rfl,by simp⟩,trivial⟩,by simp [Value.oneCell']⟩
 ·
  obtain ⟨l,h1,h2,h3⟩:=Pc (H:=H) (enc:=enc) (w:=w) (a:=a) (m:=n) he hc len (fun i hi=>by
   have:=hat i hi
   rw [hc] at this
   rw [this,List.getElem?_eq_getElem AA]
   exact ⟨_,rfl⟩)
  refine ⟨l,⟨h2,by omega⟩,⟨⟨some a,cap,by simp [h1],by simp;omega,hm,by simp,fun i row hr=> ?_⟩,trivial⟩,by simp [Value.oneCell']⟩
  rw [List.getElem?_map] at hr
  cases hz:l[i]? with
  |none=>rw [hz] at hr;cases hr
  |some z=>
   rw [hz] at hr;simp at hr;subst hr
   obtain ⟨h4,h5⟩:=h3 i z hz
   exact ⟨h4,a,rfl,h5⟩
def S8 (P:Program) (o:Nat) (fs:List Field) {α:Type} (ok:α→Prop) (f:α→List Pr):Prop:=
 ∀(H:Type) (enc:TypeId×Value→H) (w:World) (n:Nat) (cs:List Value),(∀fl∈fs,∃y,DataW.trod (H:=H) enc P w 0 (fun _=>true) true n fl.type ((cs.drop fl.offset).take (P.cellsOf fl.type))=some y)→
  cs.length=o+(fs.map fun fl=>P.cellsOf fl.type).sum→∃a,ok a∧HL gA w (f a) (cs.drop o)∧∀c∈cs.drop o,c.oneCell'=true
theorem Wt (P:Program) (o:Nat):S8 P o [] (fun _:Unit=>True) (fun _=>[]):=by
 intro H enc w n cs _ hl
 have:cs.drop o=[]:=List.drop_eq_nil_of_le (by simp at hl;omega)
 rw [this]
 exact ⟨(),trivial,trivial,by simp⟩
theorem Ng {P:Program} {o c:Nat} {fl:Field} {fs:List Field} {α β:Type} {ok:α→Prop} {f:α→List Pr} {ok':β→Prop} {f':β→List Pr} (ho:fl.offset=o) (hc:P.cellsOf fl.type=c)
  (h:Iy P fl.type ok f) (k:S8 P (o+c) fs ok' f'):S8 P o (fl::fs) (fun z:α×β=>ok z.1∧ok' z.2) (fun z=>f z.1++f' z.2):=by
 intro H enc w n cs hy hl
 obtain ⟨y,h0⟩:=hy fl (List.mem_cons_self ..)
 rw [ho,hc] at h0
 obtain ⟨a,h1,h2,h3⟩:=h H enc w n _ y h0
 obtain ⟨b,h4,h5,h6⟩:=k H enc w n cs (fun g hg=>hy g (List.mem_cons_of_mem _ hg)) (by rw [hl];simp [hc];omega)
 have e:cs.drop o=(cs.drop o).take c++cs.drop (o+c):=by rw [←List.drop_drop,List.take_append_drop]
 refine ⟨(a,b),⟨h1,h4⟩,by rw [e];exact h2.app h5,fun v hv=> ?_⟩
 rw [e] at hv
 rcases List.mem_append.1 hv with hv|hv
 · exact h3 v hv
 · exact h6 v hv
theorem S9 {P:Program} {t:TypeId} {fs:Array Field} {α:Type} {ok:α→Prop} {f:α→List Pr} (ht:P.underlying t=some (.struct fs)) (hc:P.cellsOf t=(fs.toList.map fun fl=>P.cellsOf fl.type).sum) (h:S8 P 0 fs.toList ok f):Iy P t ok f:=by
 intro H enc w fuel cs x hx
 obtain ⟨xs,n,rfl,_,hl,hxs,hat⟩:=DataW.trod_struct ht hx
 obtain ⟨a,h1,h2,h3⟩:=h H enc w n cs (fun fl hfl=>by
  obtain ⟨i,hi⟩:=List.mem_iff_getElem?.1 hfl
  have hi':fs[i]? =some fl:=by simpa using hi
  have:=hat i fl hi'
  rw [this]
  have hlt:i<fs.size:=by
   rcases Nat.lt_or_ge i fs.size with h'|h'
   · exact h'
   · rw [Array.getElem?_eq_none h'] at hi';cases hi'
  exact ⟨_,List.getElem?_eq_getElem AA⟩) (by rw [hl,hc];simp)
 exact ⟨a,h1,by simpa using h2,by simpa using h3⟩
theorem OY {H:Type} {enc:TypeId×Value→H} {P:Program} {w:World} {t:TypeId} {α:Type} {ok:α→Prop} {p:α→Pr} (ho:Iy P t ok (fun a=>[p a])) {v:Value} {d:DataW H} {ps:List MemPlace} (h:DataW.Trod enc P w 0 (fun _=>true) true t v d ps) (hv:v.cells= #[v]):
  ∃a,ok a∧(p a).h gA w v:=by
 obtain ⟨fuel,hf⟩:=h
 obtain ⟨a,h1,h2,_⟩:=ho _ _ _ _ _ _ hf
 rw [hv] at h2
 exact ⟨a,h1,h2.1⟩
theorem Kl {H:Type} {enc:TypeId×Value→H} {P:Program} (hl:laidOutB P=true) {W W':World} (hb:Below W.heap.size W W'):
  ∀{ts:List TypeId} {vs:List Value} {ds:List (DataW H)} {ps:List MemPlace},ts.all (fun t=>P.readableRec t&&decide (t<P.types.size))=true→DataW.TrodAll enc P W 0 (fun _=>true) true ts vs ds ps→(∀x∈ps,x.block<W.heap.size)→
   DataW.TrodAll enc P W' 0 (fun b=>decide (b<W.heap.size)) true ts vs ds ps
 |[],vs,ds,ps,_,h,_=>by
  obtain ⟨rfl,rfl,rfl⟩:=trodAll_nil h
  rfl
 |t::ts,vs,ds,ps,hr,h,hlt=>by
  obtain ⟨v,vs',d,ds',p,q,rfl,rfl,rfl,h1,h2⟩:=trodAll_cons h
  simp only [List.all_cons,Bool.and_eq_true,decide_eq_true_eq] at hr
  exact ⟨p,q,Below.trod hl hr.1.1 hr.1.2 h1 hb (fun x hx=>hlt x (List.mem_append_left _ hx)),Kl hl hb (by simpa using hr.2) h2 (fun x hx=>hlt x (List.mem_append_right _ hx)),rfl⟩
theorem gB {H:Type} {enc:TypeId×Value→H} {P:Program} {fn:Func} {s:ChangeSpec} {W W':World} {args:Array Value} {ds gs:List (DataW H)} {before p:List MemPlace} {tb:TypeId} (hl:laidOutB P=true)
  (hr:fn.params.toList.all (fun t=>P.readableRec t&&decide (t<P.types.size))=true) (hres:fn.resultTypes= #[tb]) (hb:P.underlying tb=some .bool) (hs:s.vars=[])
  (hA:DataW.TrodAll enc P W 0 (fun _=>true) true fn.params.toList args.toList ds p) (hp:before=p) (hW:DataW.Whole enc P fn.params.toList s.vars false W args.toList ds gs before)
  (hf:s.fn H (ds++gs)={ results:=[.lit (.bool true)],args:=ds }) (gC:Below W.heap.size W W'):s.post enc P fn false true false false W args (.bool true) W':=by
 subst hp
 refine ⟨ds,gs,before,[],before,[],hW,?_,?_,?_,gC.frame _,fun h=>by cases h⟩
 · rw [hf,hres];exact trodAll_mk1 (shut_bool hb _)
 · rw [hf];exact Kl hl gC hr hA (fun x hx=>by simpa using hW.lt x hx)
 · rw [hf,hs];rfl
end Cp
namespace Cp
open Go Go.RowKit Go.Great
section
variable {P:Program} {L:Lg P} {n:Fm} {fz:Nat} {E:Env} {I:CS} {Q:Exit→Act→World→Prop}
theorem Tr.Pf {α0:Type} (K:Env) (hK:CE E K) (F:α0→Env) (Ii:α0→CS) (C:α0→Prop) (μ:α0→Nat) {c:Code} (IL:α0)  (h0:C IL) (hs:CE E (F IL)) (hI:∀M w,I.h M w→(Ii IL).h M w)
  (round:∀x0,C x0→Tr L n (F x0++K) (Ii x0) c (Exit.then (fun a w=>∃Db,(C Db∧μ Db<μ x0)∧St n (F Db++K) (Ii Db) a w) Q)):Tr L n E I (.loop c) Q:=
 Tr.Kg K hK (fun y:α0=>F y) (fun y=>Ii y) (fun y=>C y) (fun y=>μ y) IL h0 hs hI fun y hy=>
  Tr.post (round y hy) fun e a w h=>by
   cases e<;>first|exact h|(obtain ⟨Db,h1,h2⟩:=h;exact ⟨Db,h1,h2⟩)
theorem Fin.S_ {α0:Type} {E1:α0→Env} {I1:α0→CS} {C:α0→Prop} (x0:α0)  (hC:C x0) (hs:CE E (E1 x0)) (hI:∀M w,I.h M w→(I1 x0).h M w):
  Fin n E I (Exit.then (fun a w=>∃Db,C Db∧St n (E1 Db) (I1 Db) a w) Q) .normal:=fun _ _ hst=>⟨x0,hC,hst.sub hs hI⟩
theorem Tr.Uk {α0:Type} (K:Env) (hK:CE E K) (F:α0→Value→Env) (Ii:α0→Value→CS) (C:α0→Prop) (μ:α0→Nat) {c:Code} (IL:α0) (TC:Value) (h0:C IL) (hs:CE E (F IL TC)) (hI:∀M w,I.h M w→(Ii IL TC).h M w)
  (round:∀x0 v0,C x0→Tr L n (F x0 v0++K) (Ii x0 v0) c (Exit.then (fun a w=>∃Db IM,(C Db∧μ Db<μ x0)∧St n (F Db IM++K) (Ii Db IM) a w) Q)):Tr L n E I (.loop c) Q:=
 Tr.Kg K hK (fun y:α0×Value=>F y.1 y.2) (fun y=>Ii y.1 y.2) (fun y=>C y.1) (fun y=>μ y.1) (IL,TC) h0 hs hI fun y hy=>
  Tr.post (round y.1 y.2 hy) fun e a w h=>by
   cases e<;>first|exact h|(obtain ⟨Db,IM,h1,h2⟩:=h;exact ⟨(Db,IM),h1,h2⟩)
theorem Fin.ZP {α0:Type} {E1:α0→Value→Env} {I1:α0→Value→CS} {C:α0→Prop} (x0:α0) (v0:Value) (hC:C x0) (hs:CE E (E1 x0 v0)) (hI:∀M w,I.h M w→(I1 x0 v0).h M w):
  Fin n E I (Exit.then (fun a w=>∃Db IM,C Db∧St n (E1 Db IM) (I1 Db IM) a w) Q) .normal:=fun _ _ hst=>⟨x0,v0,hC,hst.sub hs hI⟩
theorem Tr.DU {α0 α1:Type} (K:Env) (hK:CE E K) (F:α0→α1→Env) (Ii:α0→α1→CS) (C:α0→α1→Prop) (μ:α0→α1→Nat) {c:Code} (IL:α0) (L2:α1)  (h0:C IL L2) (hs:CE E (F IL L2)) (hI:∀M w,I.h M w→(Ii IL L2).h M w)
  (round:∀x0 x1,C x0 x1→Tr L n (F x0 x1++K) (Ii x0 x1) c (Exit.then (fun a w=>∃Db Er,(C Db Er∧μ Db Er<μ x0 x1)∧St n (F Db Er++K) (Ii Db Er) a w) Q)):Tr L n E I (.loop c) Q:=
 Tr.Kg K hK (fun y:α0×α1=>F y.1 y.2) (fun y=>Ii y.1 y.2) (fun y=>C y.1 y.2) (fun y=>μ y.1 y.2) (IL,L2) h0 hs hI fun y hy=>
  Tr.post (round y.1 y.2 hy) fun e a w h=>by
   cases e<;>first|exact h|(obtain ⟨Db,Er,h1,h2⟩:=h;exact ⟨(Db,Er),h1,h2⟩)
theorem Fin.DG {α0 α1:Type} {E1:α0→α1→Env} {I1:α0→α1→CS} {C:α0→α1→Prop} (x0:α0) (x1:α1)  (hC:C x0 x1) (hs:CE E (E1 x0 x1)) (hI:∀M w,I.h M w→(I1 x0 x1).h M w):
  Fin n E I (Exit.then (fun a w=>∃Db Er,C Db Er∧St n (E1 Db Er) (I1 Db Er) a w) Q) .normal:=fun _ _ hst=>⟨x0,x1,hC,hst.sub hs hI⟩
theorem Tr.Hq {α0 α1:Type} (K:Env) (hK:CE E K) (F:α0→α1→Value→Env) (Ii:α0→α1→Value→CS) (C:α0→α1→Prop) (μ:α0→α1→Nat) {c:Code} (IL:α0) (L2:α1) (TC:Value) (h0:C IL L2) (hs:CE E (F IL L2 TC)) (hI:∀M w,I.h M w→(Ii IL L2 TC).h M w)
  (round:∀x0 x1 v0,C x0 x1→Tr L n (F x0 x1 v0++K) (Ii x0 x1 v0) c (Exit.then (fun a w=>∃Db Er IM,(C Db Er∧μ Db Er<μ x0 x1)∧St n (F Db Er IM++K) (Ii Db Er IM) a w) Q)):Tr L n E I (.loop c) Q:=
 Tr.Kg K hK (fun y:α0×α1×Value=>F y.1 y.2.1 y.2.2) (fun y=>Ii y.1 y.2.1 y.2.2) (fun y=>C y.1 y.2.1) (fun y=>μ y.1 y.2.1) (IL,L2,TC) h0 hs hI fun y hy=>
  Tr.post (round y.1 y.2.1 y.2.2 hy) fun e a w h=>by
   cases e<;>first|exact h|(obtain ⟨Db,Er,IM,h1,h2⟩:=h;exact ⟨(Db,Er,IM),h1,h2⟩)
theorem Fin.CI {α0 α1:Type} {E1:α0→α1→Value→Env} {I1:α0→α1→Value→CS} {C:α0→α1→Prop} (x0:α0) (x1:α1) (v0:Value) (hC:C x0 x1) (hs:CE E (E1 x0 x1 v0)) (hI:∀M w,I.h M w→(I1 x0 x1 v0).h M w):
  Fin n E I (Exit.then (fun a w=>∃Db Er IM,C Db Er∧St n (E1 Db Er IM) (I1 Db Er IM) a w) Q) .normal:=fun _ _ hst=>⟨x0,x1,v0,hC,hst.sub hs hI⟩
theorem Tr.L3 {α0 α1 α2:Type} (K:Env) (hK:CE E K) (F:α0→α1→α2→Env) (Ii:α0→α1→α2→CS) (C:α0→α1→α2→Prop) (μ:α0→α1→α2→Nat) {c:Code} (IL:α0) (L2:α1) (TD:α2)  (h0:C IL L2 TD) (hs:CE E (F IL L2 TD)) (hI:∀M w,I.h M w→(Ii IL L2 TD).h M w)
  (round:∀x0 x1 x2,C x0 x1 x2→Tr L n (F x0 x1 x2++K) (Ii x0 x1 x2) c (Exit.then (fun a w=>∃Db Er HP,(C Db Er HP∧μ Db Er HP<μ x0 x1 x2)∧St n (F Db Er HP++K) (Ii Db Er HP) a w) Q)):Tr L n E I (.loop c) Q:=
 Tr.Kg K hK (fun y:α0×α1×α2=>F y.1 y.2.1 y.2.2) (fun y=>Ii y.1 y.2.1 y.2.2) (fun y=>C y.1 y.2.1 y.2.2) (fun y=>μ y.1 y.2.1 y.2.2) (IL,L2,TD) h0 hs hI fun y hy=>
  Tr.post (round y.1 y.2.1 y.2.2 hy) fun e a w h=>by
   cases e<;>first|exact h|(obtain ⟨Db,Er,HP,h1,h2⟩:=h;exact ⟨(Db,Er,HP),h1,h2⟩)
theorem Fin.DV {α0 α1 α2:Type} {E1:α0→α1→α2→Env} {I1:α0→α1→α2→CS} {C:α0→α1→α2→Prop} (x0:α0) (x1:α1) (x2:α2)  (hC:C x0 x1 x2) (hs:CE E (E1 x0 x1 x2)) (hI:∀M w,I.h M w→(I1 x0 x1 x2).h M w):
  Fin n E I (Exit.then (fun a w=>∃Db Er HP,C Db Er HP∧St n (E1 Db Er HP) (I1 Db Er HP) a w) Q) .normal:=fun _ _ hst=>⟨x0,x1,x2,hC,hst.sub hs hI⟩
theorem Tr.Gm {α0 α1 α2:Type} (K:Env) (hK:CE E K) (F:α0→α1→α2→Value→Env) (Ii:α0→α1→α2→Value→CS) (C:α0→α1→α2→Prop) (μ:α0→α1→α2→Nat) {c:Code} (IL:α0) (L2:α1) (TD:α2) (TC:Value) (h0:C IL L2 TD) (hs:CE E (F IL L2 TD TC)) (hI:∀M w,I.h M w→(Ii IL L2 TD TC).h M w)
  (round:∀x0 x1 x2 v0,C x0 x1 x2→Tr L n (F x0 x1 x2 v0++K) (Ii x0 x1 x2 v0) c (Exit.then (fun a w=>∃Db Er HP IM,(C Db Er HP∧μ Db Er HP<μ x0 x1 x2)∧St n (F Db Er HP IM++K) (Ii Db Er HP IM) a w) Q)):Tr L n E I (.loop c) Q:=
 Tr.Kg K hK (fun y:α0×α1×α2×Value=>F y.1 y.2.1 y.2.2.1 y.2.2.2) (fun y=>Ii y.1 y.2.1 y.2.2.1 y.2.2.2) (fun y=>C y.1 y.2.1 y.2.2.1) (fun y=>μ y.1 y.2.1 y.2.2.1) (IL,L2,TD,TC) h0 hs hI fun y hy=>
  Tr.post (round y.1 y.2.1 y.2.2.1 y.2.2.2 hy) fun e a w h=>by
   cases e<;>first|exact h|(obtain ⟨Db,Er,HP,IM,h1,h2⟩:=h;exact ⟨(Db,Er,HP,IM),h1,h2⟩)
theorem Fin.EH {α0 α1 α2:Type} {E1:α0→α1→α2→Value→Env} {I1:α0→α1→α2→Value→CS} {C:α0→α1→α2→Prop} (x0:α0) (x1:α1) (x2:α2) (v0:Value) (hC:C x0 x1 x2) (hs:CE E (E1 x0 x1 x2 v0)) (hI:∀M w,I.h M w→(I1 x0 x1 x2 v0).h M w):
  Fin n E I (Exit.then (fun a w=>∃Db Er HP IM,C Db Er HP∧St n (E1 Db Er HP IM) (I1 Db Er HP IM) a w) Q) .normal:=fun _ _ hst=>⟨x0,x1,x2,v0,hC,hst.sub hs hI⟩
theorem Tr.Ul {α0 α1 α2 α3:Type} (K:Env) (hK:CE E K) (F:α0→α1→α2→α3→Value→Env) (Ii:α0→α1→α2→α3→Value→CS) (C:α0→α1→α2→α3→Prop) (μ:α0→α1→α2→α3→Nat) {c:Code} (IL:α0) (L2:α1) (TD:α2) (nD:α3) (TC:Value) (h0:C IL L2 TD nD) (hs:CE E (F IL L2 TD nD TC)) (hI:∀M w,I.h M w→(Ii IL L2 TD nD TC).h M w)
  (round:∀x0 x1 x2 x3 v0,C x0 x1 x2 x3→Tr L n (F x0 x1 x2 x3 v0++K) (Ii x0 x1 x2 x3 v0) c (Exit.then (fun a w=>∃Db Er HP Q_ IM,(C Db Er HP Q_∧μ Db Er HP Q_<μ x0 x1 x2 x3)∧St n (F Db Er HP Q_ IM++K) (Ii Db Er HP Q_ IM) a w) Q)):Tr L n E I (.loop c) Q:=
 Tr.Kg K hK (fun y:α0×α1×α2×α3×Value=>F y.1 y.2.1 y.2.2.1 y.2.2.2.1 y.2.2.2.2) (fun y=>Ii y.1 y.2.1 y.2.2.1 y.2.2.2.1 y.2.2.2.2) (fun y=>C y.1 y.2.1 y.2.2.1 y.2.2.2.1) (fun y=>μ y.1 y.2.1 y.2.2.1 y.2.2.2.1) (IL,L2,TD,nD,TC) h0 hs hI fun y hy=>
  Tr.post (round y.1 y.2.1 y.2.2.1 y.2.2.2.1 y.2.2.2.2 hy) fun e a w h=>by
   cases e<;>first|exact h|(obtain ⟨Db,Er,HP,Q_,IM,h1,h2⟩:=h;exact ⟨(Db,Er,HP,Q_,IM),h1,h2⟩)
theorem Fin.ZQ {α0 α1 α2 α3:Type} {E1:α0→α1→α2→α3→Value→Env} {I1:α0→α1→α2→α3→Value→CS} {C:α0→α1→α2→α3→Prop} (x0:α0) (x1:α1) (x2:α2) (x3:α3) (v0:Value) (hC:C x0 x1 x2 x3) (hs:CE E (E1 x0 x1 x2 x3 v0)) (hI:∀M w,I.h M w→(I1 x0 x1 x2 x3 v0).h M w):
  Fin n E I (Exit.then (fun a w=>∃Db Er HP Q_ IM,C Db Er HP Q_∧St n (E1 Db Er HP Q_ IM) (I1 Db Er HP Q_ IM) a w) Q) .normal:=fun _ _ hst=>⟨x0,x1,x2,x3,v0,hC,hst.sub hs hI⟩
theorem Tr.Um {α0 α1 α2 α3:Type} (K:Env) (hK:CE E K) (F:α0→α1→α2→α3→Value→Value→Env) (Ii:α0→α1→α2→α3→Value→Value→CS) (C:α0→α1→α2→α3→Prop) (μ:α0→α1→α2→α3→Nat) {c:Code} (IL:α0) (L2:α1) (TD:α2) (nD:α3) (TC:Value) (v1s:Value) (h0:C IL L2 TD nD) (hs:CE E (F IL L2 TD nD TC v1s)) (hI:∀M w,I.h M w→(Ii IL L2 TD nD TC v1s).h M w)
  (round:∀x0 x1 x2 x3 v0 v1,C x0 x1 x2 x3→Tr L n (F x0 x1 x2 x3 v0 v1++K) (Ii x0 x1 x2 x3 v0 v1) c (Exit.then (fun a w=>∃Db Er HP Q_ IM v1',(C Db Er HP Q_∧μ Db Er HP Q_<μ x0 x1 x2 x3)∧St n (F Db Er HP Q_ IM v1'++K) (Ii Db Er HP Q_ IM v1') a w) Q)):Tr L n E I (.loop c) Q:=
 Tr.Kg K hK (fun y:α0×α1×α2×α3×Value×Value=>F y.1 y.2.1 y.2.2.1 y.2.2.2.1 y.2.2.2.2.1 y.2.2.2.2.2) (fun y=>Ii y.1 y.2.1 y.2.2.1 y.2.2.2.1 y.2.2.2.2.1 y.2.2.2.2.2) (fun y=>C y.1 y.2.1 y.2.2.1 y.2.2.2.1) (fun y=>μ y.1 y.2.1 y.2.2.1 y.2.2.2.1) (IL,L2,TD,nD,TC,v1s) h0 hs hI fun y hy=>
  Tr.post (round y.1 y.2.1 y.2.2.1 y.2.2.2.1 y.2.2.2.2.1 y.2.2.2.2.2 hy) fun e a w h=>by
   cases e<;>first|exact h|(obtain ⟨Db,Er,HP,Q_,IM,v1',h1,h2⟩:=h;exact ⟨(Db,Er,HP,Q_,IM,v1'),h1,h2⟩)
theorem Fin.ZR {α0 α1 α2 α3:Type} {E1:α0→α1→α2→α3→Value→Value→Env} {I1:α0→α1→α2→α3→Value→Value→CS} {C:α0→α1→α2→α3→Prop} (x0:α0) (x1:α1) (x2:α2) (x3:α3) (v0:Value) (v1:Value) (hC:C x0 x1 x2 x3) (hs:CE E (E1 x0 x1 x2 x3 v0 v1)) (hI:∀M w,I.h M w→(I1 x0 x1 x2 x3 v0 v1).h M w):
  Fin n E I (Exit.then (fun a w=>∃Db Er HP Q_ IM v1',C Db Er HP Q_∧St n (E1 Db Er HP Q_ IM v1') (I1 Db Er HP Q_ IM v1') a w) Q) .normal:=fun _ _ hst=>⟨x0,x1,x2,x3,v0,v1,hC,hst.sub hs hI⟩
end
structure DS where
 l:List Int
 at_:Nat
 h:at_≤l.length
 h2:l.length≤1000000000
def DS.val (s:DS) (n:Int):Int:=match s.l[s.at_]? with|some x=>x % n|none=>0
def DS.BV (s:DS):DS:=if h:s.at_<s.l.length then ⟨s.l,s.at_+1,h,s.h2⟩ else s
theorem DS.Bi (s:DS) {n:Int} (hn:1≤n):0≤s.val n∧s.val n<n:=by
 unfold DS.val
 split
 · exact ⟨Int.emod_nonneg _ AA,Int.emod_lt_of_pos _ AA⟩
 · omega
theorem DS.nE {s:DS} (h:s.l.length≤s.at_) (n:Int):s.val n=0:=by
 unfold DS.val;rw [List.getElem?_eq_none h]
theorem DS.nF {s:DS} (h:s.l.length≤s.at_):s.BV=s:=by
 unfold DS.BV;rw [dif_neg AA]
theorem DS.tN {s:DS} {x:Int} (h:s.l[s.at_]? =some x) (n:Int):s.val n=x % n:=by
 unfold DS.val;rw [h]
theorem DS.tO {s:DS} (h:s.at_<s.l.length):s.BV=⟨s.l,s.at_+1,h,s.h2⟩:=by
 unfold DS.BV;rw [dif_pos h]
def Mw (s:DS):List Pr:=[slice 1 (s.l.map fun n=>[int n]),int ((s.at_:Nat):Int)]
def Pg (T:TypeId) (b:Nat) (s:DS):An:=AE true b T (Mw s)
def FK (T:TypeId) (b:Nat):An:=Lx true b T (fun _:DS=>True) Mw
def DS.of (s:DS) (l:List Int):Int:=(l[(s.val l.length).toNat]?).getD 0
theorem DS.K4 (s:DS) {l:List Int} (h:l≠[]):s.of l∈l:=by
 have h0:1≤(l.length:Int):=by
  have:=List.length_pos_iff.2 h
  omega
 have:=s.Bi h0
 unfold DS.of
 rw [List.getElem?_eq_getElem AA]
 exact List.getElem_mem _
section
variable {P:Program} {L:Lg P} {n:Fm} {fz:Nat} {E:Env} {M0:Av} {w0:World} {S:Nat→Prop} {rs:List An}
theorem BR.exd {f:FuncId} {args:List Pr} {res:Pr} {T:TypeId} {b:Nat} {R':Value→An} (h:∀s,BR P f args res (Pg T b s) R'):BR P f args res (FK T b) R':=by
 refine ⟨(h ⟨[],0,by simp,by simp⟩).1,fun M0 w0 S rs M w vs hI hv=> ?_⟩
 obtain ⟨s,_,hs⟩:=(hI.hold (FK T b) AO).1
 have h2:At M0 w0 S (Pg T b s::rs) M w:=At.CD (i:=0) hI rfl rfl rfl hs
 exact (h s).2 M0 w0 S rs M w vs h2 hv
theorem Tr.Nh {Q:Exit→Act→World→Prop} {c:Code} (i:Nat) {T:TypeId} {b:Nat} (hi:rs[i]? =some (FK T b)) (k:∀s,Tr L n E (Hp M0 w0 S (rs.set i (Pg T b s))) c Q):Tr L n E (Hp M0 w0 S rs) c Q:=
 Tr.xh i hi fun s _=>k s
theorem Fin.Nh {Q:Exit→Act→World→Prop} {e:Exit} (i:Nat) {T:TypeId} {b:Nat} (hi:rs[i]? =some (FK T b)) (k:∀s,Fin n E (Hp M0 w0 S (rs.set i (Pg T b s))) Q e):Fin n E (Hp M0 w0 S rs) Q e:=by
 rintro a w ⟨M,h1,h2,h3,h4⟩
 have h4:At M0 w0 S rs M w:=h4
 obtain ⟨x,hx,hh⟩:=(h4.hold _ (List.mem_of_getElem? hi)).1
 exact k x a w ⟨M,h1,h2,h3,h4.CD hi rfl rfl hh⟩
theorem Fin.B4 {Q:Exit→Act→World→Prop} {e:Exit} (i:Nat) {T:TypeId} {b:Nat} (s:DS) {ps:List Pr} (hi:rs[i]? =some (AE true b T ps)) (hp:ps=Mw s) (k:Fin n E (Hp M0 w0 S (rs.set i (FK T b))) Q e):Fin n E (Hp M0 w0 S rs) Q e:=
 Fin.Mv i (fun _=>True) Mw s trivial hi hp k
theorem Tr.B4 {Q:Exit→Act→World→Prop} {c:Code} (i:Nat) {T:TypeId} {b:Nat} (s:DS) {ps:List Pr} (hi:rs[i]? =some (AE true b T ps)) (hp:ps=Mw s) (k:Tr L n E (Hp M0 w0 S (rs.set i (FK T b))) c Q):Tr L n E (Hp M0 w0 S rs) c Q:=
 Tr.Mv i (fun _=>True) Mw s trivial hi hp k
theorem TO.Wu {ops:Array Oper} {l:List Oper} {Q:Exit→Act→World→Prop} (s j:Nat) {v:Value} {f:Value→An} (g:Nat→An) (hs:E.lookup s=some (Ae v (Cp.ex fun b=>ptr b 0))) (hi:rs[j]? =some (f v)) (hf:∀b,f (.pointer (some ⟨b,0,none⟩))=g b)
  (k:∀b,TO P n ops l ((s,ptr b 0)::E) (Hp M0 w0 S (rs.set j (g b))) Q):TO P n ops l E (Hp M0 w0 S rs) Q:=by
 intro k0 hl a w hst
 obtain ⟨M,h1,h2,he,h4⟩:=hst
 obtain ⟨h5,b,h6⟩:=he s _ hs
 have hv:v= .pointer (some ⟨b,0,none⟩):=by rw [←h5];exact h6
 have hj:rs.set j (g b)=rs:=by
  have hjl:j<rs.length:=by rcases Nat.lt_or_ge j rs.length with h|h;exact h;rw [List.getElem?_eq_none h] at hi;cases hi
  rw [←hf b,←hv]
  rw [List.getElem?_eq_getElem hjl] at hi
  simp at hi
  rw [←hi,List.set_getElem_self]
 refine k b k0 hl a w ⟨M,h1,h2,?_,by rw [hj];exact h4⟩
 intro t q hq
 simp only [List.lookup] at hq
 by_cases ht:t=s
 · exact J2
 · exact Mj
def Ni (r:ResultVar) (a:Act):Sem Value:=match r with| .tmp t=>pure (a.tmps.getD t undef)| .cell c t=>do loadVar t (←asAddr (a.tmps.getD c undef))
def A7 (P:Program) (E:Env) (rs:List An) (r:ResultVar) (p:Pr):Prop:=∀(M:Av) (w:World) (a:Act),FF M w E a→(∀q∈rs,q.h M w)→∃v,(Ni r a).run P w= .ok v w∧p.h M w v
theorem A7.tmp {t:Tmp} {q p:Pr} (h:E.lookup t=some q) (hl:Pr.le q p):A7 P E rs (.tmp t) p:=fun _ _ _ he _=>⟨_,rfl,hl _ _ _ (he _ _ h)⟩
theorem A7.cell (i:Nat) {c:Tmp} {t T:TypeId} {b m:Nat} {new:Bool} {ps:List Pr} {p:Pr} (h:E.lookup c=some (ptr b 0)) (hi:rs[i]? =some (AE new b T ps)) (ht:FR P t=true) (hz:Au P t=some m) (hm:ps.length=m) (hl:Pr.le (agg ps) p):A7 P E rs (.cell c t) p:=by
 intro M w a he hr
 obtain ⟨v,h1,h2⟩:=fc ht hz hm (hr _ (List.mem_of_getElem? hi))
 refine ⟨v,?_,hl _ _ _ h2⟩
 have hc:a.tmps.getD c undef= .pointer (some ⟨b,0,none⟩):=he _ _ h
 unfold Ni
 simp only [hc,asAddr]
 simpa [Sem.run_bind] using h1
theorem K5 (g:Func) (a:Act):results g a.tmps=(do let vs ←g.results.mapM (fun r=>Ni r a);pure (if h:vs.size=1 then vs[0] else .tuple vs)):=by
 have:(fun r:ResultVar=>Ni r a)=(fun| .tmp t=>pure (a.tmps.getD t undef)| .cell c t=>do loadVar t (←asAddr (a.tmps.getD c undef))):=by
  funext r;cases r<;>rfl
 rw [this];rfl
theorem results1 {g:Func} {r:ResultVar} {a:Act} {w:World} {v:Value} (hr:g.results= #[r]) (h:(Ni r a).run P w= .ok v w):(results g a.tmps).run P w= .ok v w:=by
 rw [K5,hr];simp [Sem.run_bind,h]
theorem results2 {g:Func} {r r':ResultVar} {a:Act} {w:World} {v v':Value} (hr:g.results= #[r,r']) (h:(Ni r a).run P w= .ok v w) (h':(Ni r' a).run P w= .ok v' w):(results g a.tmps).run P w= .ok (.tuple #[v,v']) w:=by
 rw [K5,hr];simp [Sem.run_bind,h,h']
theorem At.TE {M:Av} {w:World}:∀{pre:List An},At M0 w0 S (pre++rs) M w→At M0 w0 S rs M w
 |[],h=>h
 |_::_,h=>At.TE h.Iv
variable {g:Func} {M1:Av} {w1:World}
theorem Fin.Dn {r:ResultVar} {p q:Pr} (hr:g.results= #[r]) (h:A7 P E rs r q) (hl:Pr.le q p):Fin ⟨fz,[]⟩ E (Hp M0 w0 II rs) (bodyPost P g (UZ M0 w0 p)) .ret:=by
 rintro a w ⟨M,_,hd,he,hi⟩
 obtain ⟨v,hv,hp⟩:=h M w a he (fun q hq=>(hi.hold q hq).1)
 obtain ⟨h1,h2⟩:=Bm.Dw M0 w0 M w hi
 exact ⟨hd,v,results1 hr hv,_,rfl,p.st _ _ _ _ _ (Ext.less h1) (hl _ _ _ hp),h2⟩
theorem Fin.GJ {r r':ResultVar} {p q q':Pr} (hr:g.results= #[r,r']) (h:A7 P E rs r q) (h':A7 P E rs r' q') (hl:Pr.le (F8 [q,q']) p):Fin ⟨fz,[]⟩ E (Hp M0 w0 II rs) (bodyPost P g (UZ M0 w0 p)) .ret:=by
 rintro a w ⟨M,_,hd,he,hi⟩
 obtain ⟨v,hv,hp⟩:=h M w a he (fun q hq=>(hi.hold q hq).1)
 obtain ⟨v',hv',hp'⟩:=h' M w a he (fun q hq=>(hi.hold q hq).1)
 obtain ⟨h1,h2⟩:=Bm.Dw M0 w0 M w hi
 exact ⟨hd,_,results2 hr hv hv',_,rfl,p.st _ _ _ _ _ (Ext.less h1) (hl _ _ _ ⟨[_,_],rfl,hp,hp',trivial⟩),h2⟩
theorem Fin.Cb (pre:List An) {r:ResultVar} {R:An} {R':Value→An} {p q:Pr} (hr:g.results= #[r]) (h:A7 P E (pre++R::Ak M1 w1::rs) r q) (hl:Pr.le q p) (hR:∀M w v,q.h M w v→R' v=R):
  Fin ⟨fz,[]⟩ E (Hp M0 w0 S (pre++R::Ak M1 w1::rs)) (bodyPost P g (NY M0 w0 S rs M1 w1 p R')) .ret:=by
 rintro a w ⟨M,_,hd,he,hi⟩
 obtain ⟨v,hv,hp⟩:=h M w a he (fun q hq=>(hi.hold q hq).1)
 obtain ⟨h1,h2⟩:=fZ (At.TE hi)
 exact ⟨hd,v,results1 hr hv,_,M,rfl,hl _ _ _ hp,h1,by rw [hR _ _ _ hp];exact h2⟩
theorem Fin.Un (pre:List An) {r r':ResultVar} {R:An} {p q q':Pr} (hr:g.results= #[r,r']) (h:A7 P E (pre++R::Ak M1 w1::rs) r q) (h':A7 P E (pre++R::Ak M1 w1::rs) r' q') (hl:Pr.le (F8 [q,q']) p):
  Fin ⟨fz,[]⟩ E (Hp M0 w0 S (pre++R::Ak M1 w1::rs)) (bodyPost P g (NY M0 w0 S rs M1 w1 p (fun _=>R))) .ret:=by
 rintro a w ⟨M,_,hd,he,hi⟩
 obtain ⟨v,hv,hp⟩:=h M w a he (fun q hq=>(hi.hold q hq).1)
 obtain ⟨v',hv',hp'⟩:=h' M w a he (fun q hq=>(hi.hold q hq).1)
 obtain ⟨h1,h2⟩:=fZ (At.TE hi)
 exact ⟨hd,_,results2 hr hv hv',_,M,rfl,hl _ _ _ ⟨[_,_],rfl,hp,hp',trivial⟩,h1,h2⟩
theorem DA {α:Type} {p:α→Pr} {q:Pr} (x:α) (h:Pr.le q (p x)):Pr.le q (Cp.ex p):=fun M w v hv=>⟨x,h M w v hv⟩
theorem CO {φ:Prop} {p q:Pr} (hφ:φ) (h:Pr.le q p):Pr.le q (fact φ p):=fun M w v hv=>⟨hφ,h M w v hv⟩
end
section
variable {P:Program} {L:Lg P} {n:Fm} {fz:Nat} {E:Env} {M0:Av} {w0:World} {S:Nat→Prop} {rs:List SR} {o:Oper}
theorem Ga {t:TypeId} {x:Operand} {q:Tmp} {j:Nat} {new:Bool} {b off:Nat} {T:TypeId} {ps:List Pr} {p:Pr} [One p] (hg:o.guard=none) (hd:o.dst=none) (ho:o.op= .store t x (.tmp q)) (hx:VL E x (ptr b off)) (hy:E.lookup q=some p)
  (hz:Au P t=some 1) (hl:off+1≤ps.length):Di P M0 w0 S n j (SR.c (AE new b T ps)) ⟨q,fun v=>AE new b T (ps.take off++[Ae v p]++ps.drop (off+1))⟩ o E any:=by
 refine ⟨hg,fun M w a rs hsz he hI hj=> ?_⟩
 have h1:a.eval x= .pointer (some ⟨b,off,none⟩):=hx.ev he Ap
 have hv:VL E (.tmp q) p:=⟨_,hy,Pr.le_refl _⟩
 have hp:=hv.ev he (show (Operand.tmp q)∈o.op.operands.toList by simp [ho,Op.operands])
 obtain ⟨h2,h3⟩:=(VL.le hv (AP p)).ev he (show (Operand.tmp q)∈o.op.operands.toList by simp [ho,Op.operands])
 obtain ⟨⟨_,cs,h4,h5,h6⟩,_⟩:=hI.hold _ (List.mem_of_getElem? hj)
 have h5l:=h5.length
 have h2l:=h2.length
 have hone:(a.eval (.tmp q)).cells= #[a.eval (.tmp q)]:=(One.one (p:=p) M w _ hp).1
 have h2':HL M w [Ae (a.eval (.tmp q)) p] (a.eval (.tmp q)).cells.toList:=by rw [hone];exact ⟨⟨rfl,hp⟩,trivial⟩
 have hcells:(a.eval (.tmp q)).cells.size=1:=by rw [hone];rfl
 have hrun:(storeCells ⟨b,off,none⟩ (a.eval (.tmp q)).cells.toList 0).run P w= .ok () (w.setRow b (cs.take off++(a.eval (.tmp q)).cells.toList++cs.drop (off+1)).toArray):=by
  have:=run_storeCells_at (P:=P) b off T (a.eval (.tmp q)).cells.toList 0 cs.toArray w h4 (by simp [hcells];omega) h3
  simpa [hcells] using this
 have Dl:(execOp a.eval o).run P w= .ok .skip (w.setRow b (cs.take off++(a.eval (.tmp q)).cells.toList++cs.drop (off+1)).toArray):=by
  simp [execOp,ho,h1,Instr.storeAt,Instr.sureAddr,storeVar,CA hz,hcells,hrun]
 rw [Dl]
 obtain ⟨h7, h8⟩ := At.write (qs := ps.take off ++ [Ae (a.eval (.tmp q)) p] ++ ps.drop (off + 1)) (cs := cs.take off ++ (a.eval (.tmp q)).cells.toList ++ cs.drop (off + 1)) hI hj ((((h5.take off).app h2')).app (h5.drop (off + 1)))
  (fun c hc=>by
   simp only [List.mem_append] at hc
   rcases hc with (hc|hc)|hc
   · exact Lj
   · exact h3 c hc
   · exact h6 c (List.mem_of_mem_drop hc))
 refine ⟨M,trivial,h8,?_⟩
 have hput:SR.at_ (a.put o.dst undef) ⟨q,fun v=>AE new b T (ps.take off++[Ae v p]++ps.drop (off+1))⟩=AE new b T (ps.take off++[Ae (a.eval (.tmp q)) p]++ps.drop (off+1)):=by rw [hd];rfl
 rw [hput];exact h7
theorem gD {j s:Nat} {f:Value→An} (hR:rs[j]? =some ⟨s,f⟩) (a:Act):(rs.set j (SR.c (f (a.tmps.getD s undef)))).map (·.at_ a)=rs.map (·.at_ a):=by
 rw [List.map_set]
 apply List.ext_getElem?
 intro i
 rw [List.getElem?_set]
 by_cases hij:j=i
 ·
  subst hij
  rw [if_pos rfl]
  split
  · rw [List.getElem?_map,hR];rfl
  ·
   rename_i hge
   rw [List.getElem?_eq_none AA]
 · rw [if_neg hij]
theorem BW.Rc {Q:Exit→Act→World→Prop} (j i s:Nat) {f g:Value→An} {p:Pr} (hR:rs[j]? =some ⟨s,f⟩) (hR':rs[i]? =some ⟨s,g⟩) (hij:j≠i) (hs:E.lookup s=some p) (k:∀v,BW n M0 w0 S ((s,Ae v p)::E) ((rs.set j (SR.c (f v))).set i (SR.c (g v))) Q):BW n M0 w0 S E rs Q:=by
 rintro a w ⟨M,h1,h2,h3,h4⟩
 refine k (a.tmps.getD s undef) a w ⟨M,h1,h2,?_,?_⟩
 ·
  intro t q hq
  simp only [List.lookup] at hq
  by_cases ht:t=s
  · exact Ym
  · rw [show (t==s)=false by simpa using ht] at hq;exact h3 t q hq
 · rw [gD (rs:=rs.set j (SR.c (f (a.tmps.getD s undef)))) (j:=i) (s:=s) (f:=g) (by rw [List.getElem?_set,if_neg hij];exact hR') a,gD hR a];exact h4
end
section
variable {P:Program} {L:Lg P} {n:Fm} {fz:Nat} {E:Env} {M0:Av} {w0:World} {S:Nat→Prop} {rs:List An}
theorem St.HQ (j:Nat) {new:Bool} {b:Nat} {T:TypeId} {ps qs:List Pr} (hi:rs[j]? =some (AE new b T ps)) (h:PW ps qs) {a:Act} {w:World} (hs:St n E (Hp M0 w0 S rs) a w):St n E (Hp M0 w0 S (rs.set j (AE new b T qs))) a w:=by
 obtain ⟨M,h1,h2,h3,h4⟩:=hs
 have h4:At M0 w0 S rs M w:=h4
 obtain ⟨h5,cs,h6,h7,h8⟩:=(h4.hold _ (List.mem_of_getElem? hi)).1
 exact ⟨M,h1,h2,h3,h4.CD hi rfl rfl ⟨h5,cs,h6,h.hl h7,h8⟩⟩
theorem Tr.HQ {Q:Exit→Act→World→Prop} {c:Code} (j:Nat) {new:Bool} {b:Nat} {T:TypeId} {ps:List Pr} (qs:List Pr) (hi:rs[j]? =some (AE new b T ps)) (h:PW ps qs) (k:Tr L n E (Hp M0 w0 S (rs.set j (AE new b T qs))) c Q):Tr L n E (Hp M0 w0 S rs) c Q:=
 Tr.conv (fun _ _ hs=>hs.HQ j hi h) k
theorem Fin.HQ {Q:Exit→Act→World→Prop} {e:Exit} (j:Nat) {new:Bool} {b:Nat} {T:TypeId} {ps:List Pr} (qs:List Pr) (hi:rs[j]? =some (AE new b T ps)) (h:PW ps qs) (k:Fin n E (Hp M0 w0 S (rs.set j (AE new b T qs))) Q e):Fin n E (Hp M0 w0 S rs) Q e:=
 Fin.conv (fun _ _ hs=>hs.HQ j hi h) k
end
section
variable {P:Program} {L:Lg P} {n:Fm} {fz:Nat} {E:Env} {M0:Av} {w0:World} {S:Nat→Prop} {rs:List An}
abbrev J8 (m b:Nat):Value:= .slice (some ⟨b,0,none⟩) m m
theorem TO.ZS {ops:Array Oper} {o:Oper} {r:List Oper} {Q:Exit→Act→World→Prop} {d m bO:Nat} {t e:TypeId} {x y:Operand} {z:Value} (hg:o.guard=none) (hd:o.dst=some d) (hn:d<n) (ho:o.op= .makeSlice t x y) (ht:P.underlying t=some (.slice e))
  (hs:Au P e=some 1) (hby:Bq P e=some bO) (hz:BO P e=some [z]) (h1:z.oneCell'=true) (hx:VL E x (int ((m:Nat):Int))) (hy:VL E y (int ((m:Nat):Int))) (hm:m≤maxLen) (hb:bO*m≤281474976710656)
  (k:∀b,TO P n ops r ((d,is (J8 m b))::E) (Hp M0 w0 S (AE true b e ((List.replicate m z).map is)::rs)) Q):TO P n ops (o::r) E (Hp M0 w0 S rs) Q:=
 TO.bI hg fun K M w a hsz hdf he hI hK=>by
  have hx1:a.eval x= .int .i64 m:=hx.ev (o:=o) (CF he) Ap
  have hy1:a.eval y= .int .i64 m:=hy.ev (o:=o) (CF he) Ap
  have hi:∃i,P.info? e=some i∧i.size=1∧i.bytes=bO∧∃z',i.zero=some z'∧z'.cells= #[z]:=by
   unfold Au at hs;unfold Bq at hby;unfold BO at hz
   cases hi:P.info? e with
   |none=>rw [hi] at hs;cases hs
   |some i=>
    rw [hi] at hs hby hz
    simp at hs hby hz
    obtain ⟨z',h2,h3⟩:=hz
    exact ⟨i,rfl,hs,hby,z',h2,by rw [←Array.toList_inj,h3]⟩
  obtain ⟨i,hi,hi1,hi2,z',G8,S2⟩:=hi
  have hmk:madeCells z'.cells m=(List.replicate m z).toArray:=by
   rw [S2]
   apply Array.ext
   · simp [madeCells]
   ·
    intro j h1 h2
    simp [madeCells,Nat.mod_one]
  have hrun:=run_make (P:=P) w t e i z' ht hi G8 .i64 .i64 (m:Int) (m:Int) AA (Int.le_refl _) (by rw [hi2];have h0:((bO*m:Nat):Int)≤281474976710656:=Int.ofNat_le.2 hb;rw [←Int.natCast_mul];exact h0) Sr
  rw [hi1] at hrun
  simp only [Int.toNat_natCast,Nat.mul_one] at hrun
  rw [hmk] at hrun
  refine TO.val (v:=J8 m w.heap.size) (w':=w.alloc (.cells (List.replicate m z).toArray e)) ?_ ?_
  · simp [execOp,ho,hx1,hy1,hrun]
  ·
   obtain ⟨h2,h3⟩:=At.add (T:=e) hI (Kh M w (List.replicate m z)) (fun c hc=>by rw [List.eq_of_mem_replicate hc];exact h1)
   refine hK _ _ _ _ (k w.heap.size) ⟨_,by rw [Bp];exact hsz,by rw [put_defers];exact hdf,?_,h2⟩
   intro s p hp
   simp only [List.lookup] at hp
   by_cases hs:s=d
   · exact PB
   ·
    rw [show (s==d)=false by simpa using hs] at hp
    rw [hd,BN hs]
    exact p.st _ _ _ _ _ h3 (he s p hp)
theorem BE {I:CS} {o:Oper} {t e:TypeId} {x y:Operand} {k:IntKind} {i:Int} {len cap sz b off:Nat} (ho:o.op= .indexAddr t x y) (ht:P.underlying t=some (.slice e)) (hz:Au P e=some sz) (hx:VL E x (is (.slice (some ⟨b,off,none⟩) len cap))) (hy:VL E y (is (.int k i)))
  (h0:0≤i) (hl:i<len):Ad P I o E (ptr b (off+i.toNat*sz)):=
 Ad.same fun M w a he _=>by
  have h1:a.eval x=_:=hx.ev he Ap
  have h5:a.eval y= .int k i:=hy.ev he Ap
  refine ⟨_,?_,rfl⟩
  simp [execOp,ho,h1,h5,Instr.indexAt,asIntOf,run_underlying ht,CA hz,h0,hl,Ep]
def DW (e:TypeId):List Nat→List (List Pr)→List An
 |b::bs,r::E_=>AE true b e r::DW e bs E_
 |_,_=>[]
theorem Rd {e:TypeId} {b:Nat} {r:List Pr}:∀{bs:List Nat} {E_:List (List Pr)},bs.length=E_.length→(DW e (bs++[b]) (E_++[r])).Perm (AE true b e r::DW e bs E_)
 |[],[],_=>List.Perm.refl _
 |c::bs,q::E_,h=>((Rd DM).cons _).trans (List.Perm.swap _ _ _)
 |[],_::_,h=>by simp at h
 |_::_,[],h=>by simp at h
theorem TG {e:TypeId} {b:Nat} (r':List Pr):∀{i:Nat} {bs:List Nat} {E_:List (List Pr)},bs.length=E_.length→bs[i]? =some b→(DW e bs (E_.set i r')).Perm (AE true b e r'::DW e (bs.eraseIdx i) (E_.eraseIdx i))
 |0,c::bs,q::E_,_,hb=>by simp at hb;subst hb;exact List.Perm.refl _
 |i+1,c::bs,q::E_,h,hb=>((TG r' DM Ge).cons _).trans (List.Perm.swap _ _ _)
 |_,[],[],_,hb=>by simp at hb
 |_,[],_::_,h,_=>by simp at h
 |_,_::_,[],h,_=>by simp at h
theorem gE {e:TypeId} {b i:Nat} {r:List Pr} {bs:List Nat} {E_:List (List Pr)} (h:bs.length=E_.length) (hb:bs[i]? =some b) (hr:E_[i]? =some r):(DW e bs E_).Perm (AE true b e r::DW e (bs.eraseIdx i) (E_.eraseIdx i)):=by
 have:=TG (e:=e) r h hb
 rwa [show E_.set i r=E_ by
  have hl:i<E_.length:=by rcases Nat.lt_or_ge i E_.length with h|h;exact h;rw [List.getElem?_eq_none h] at hr;cases hr
  rw [List.getElem?_eq_getElem hl] at hr;simp at hr;rw [←hr,List.set_getElem_self]] at this
theorem Tr.perm {Q:Exit→Act→World→Prop} {c:Code} {rs':List An} (hp:rs.Perm rs') (k:Tr L n E (Hp M0 w0 S rs') c Q):Tr L n E (Hp M0 w0 S rs) c Q:=
 Tr.conv (fun _ _ ⟨M,h1,h2,h3,h4⟩=>⟨M,h1,h2,h3,At.perm hp h4⟩) k
theorem Fin.perm {Q:Exit→Act→World→Prop} {ex:Exit} {rs':List An} (hp:rs.Perm rs') (k:Fin n E (Hp M0 w0 S rs') Q ex):Fin n E (Hp M0 w0 S rs) Q ex:=
 Fin.conv (fun _ _ ⟨M,h1,h2,h3,h4⟩=>⟨M,h1,h2,h3,At.perm hp h4⟩) k
theorem At.OZ {b:Nat} {T:TypeId} {ps:List Pr} {M:Av} {w:World} (h4:At M0 w0 S (AE true b T ps::rs) M w):∃M',At M0 w0 S rs M' w∧Ext M w M' w∧Row M' w ⟨b,0,none⟩ 0 ps:=by
 obtain ⟨⟨hm,cs,hh,hc,hone⟩,hbb⟩:=h4.hold _ (List.mem_cons_self ..)
 obtain ⟨hlt,hnew⟩:=hbb b rfl
 have hnew:w0.heap.size≤b:=by simpa [AE] using hnew
 have he:Ext M w (fun b' o=>M b' o∧b'≠b) w:=Ext.less fun _ _ h=>h.1
 obtain ⟨ACV,ACW⟩:=List.pairwise_cons.1 h4.nd
 refine ⟨fun b' o=>M b' o∧b'≠b,⟨h4.m0,fun b' o' hm'=>⟨h4.m b' o' hm',fun e=> ?_⟩,h4.os,h4.tape,h4.output,h4.size,h4.block,fun b' o' hm'=>h4.bd b' o' hm'.1,fun r hr=> ?_,ACW⟩,he,fun j p hp=> ?_⟩
 ·
  subst e
  have:=h4.m0 _ _ hm'
  omega
 ·
  obtain ⟨h5,h6⟩:=h4.hold r (List.mem_cons_of_mem _ hr)
  exact ⟨r.st _ _ _ _ he (fun b' hb'=>⟨rfl,fun o' hmo=>⟨hmo,fun e=>ACV r hr b rfl (by rw [←e];exact hb')⟩⟩) h5,h6⟩
 ·
  obtain ⟨u,hu,mu⟩:=hc.at_ j p hp
  refine ⟨u,?_,fun hx=>hx.2 rfl,hone u (List.mem_of_getElem? hu),p.st _ _ _ _ _ he mu⟩
  rw [show Addr.add ⟨b,0,none⟩ (0+j)=⟨b,j,none⟩ by unfold Addr.add;split<;>simp_all]
  simp [World.cell?,hh,hu]
theorem At.Fc {e:TypeId} {w:World}:∀{bs:List Nat} {E_:List (List Pr)} {M:Av},bs.length=E_.length→At M0 w0 S (DW e bs E_++rs) M w→∃M',At M0 w0 S rs M' w∧Ext M w M' w∧∀(i:Nat) b r,bs[i]? =some b→E_[i]? =some r→Row M' w ⟨b,0,none⟩ 0 r
 |[],[],M,_,h=>⟨M,h,Ext.refl _ _,fun i b r hb=>by simp at hb⟩
 |c::bs,q::E_,M,hl,h=>by
  obtain ⟨M1,h1,h2,h3⟩:=At.OZ (rs:=DW e bs E_++rs) h
  obtain ⟨M2,h4,h5,h6⟩:=At.Fc (by simpa using hl) h1
  refine ⟨M2,h4,h2.trans h5,fun i b r hb hr=> ?_⟩
  cases i with
  |zero=>simp at hb hr;subst hb;subst hr;exact h3.st h5
  |succ i=>exact h6 i b r Ge (by simpa using hr)
 |[],_::_,_,h,_=>by simp at h
 |_::_,[],_,h,_=>by simp at h
theorem St.Fc {e:TypeId} {bs:List Nat} {E_:List (List Pr)} {m s:Nat} {q:Pr} (hl:bs.length=E_.length) (hm:m≤maxLen) (hr:∀r∈E_,r.length=m) (hs:E.lookup s=some q) (hq:Pr.le q (slice 1 (bs.map fun b=>[is (J8 m b)])))
  {a:Act} {w:World} (h:St n E (Hp M0 w0 S (DW e bs E_++rs)) a w):St n ((s,slice 1 (E_.map fun r=>[slice 1 (r.map fun p=>[p])]))::E) (Hp M0 w0 S rs) a w:=by
 obtain ⟨M,h1,h2,h3,h4⟩:=h
 obtain ⟨M',h5,h6,h7⟩:=At.Fc hl h4
 refine ⟨M',h1,h2,?_,h5⟩
 intro t p hp
 simp only [List.lookup] at hp
 by_cases ht:t=s
 ·
  subst ht
  simp at hp
  subst hp
  obtain ⟨A,cap,h8,h9,h10,h11,h12⟩:=(slice 1 (bs.map fun b=>[is (J8 m b)])).st _ _ _ _ _ h6 (hq _ _ _ (h3 t _ hs))
  refine ⟨A,cap,by rw [h8];simp [hl],by simpa [hl] using h9,h10,h11,fun i row hrow=> ?_⟩
  rw [List.getElem?_map] at hrow
  cases htb:E_[i]? with
  |none=>rw [htb] at hrow;cases hrow
  |some r=>
   rw [htb] at hrow
   simp at hrow
   subst hrow
   have FU:i<bs.length:=by
    rcases Nat.lt_or_ge i E_.length with h|h
    · omega
    · rw [List.getElem?_eq_none h] at htb;cases htb
   obtain ⟨_,ad,L4,J9⟩:=h12 i [is (J8 m bs[i])] (by rw [List.getElem?_map,List.getElem?_eq_getElem FU];rfl)
   refine ⟨rfl,ad,L4,fun j p hp=> ?_⟩
   have hj:j=0:=by
    rcases Nat.eq_zero_or_pos j with h|h
    · exact h
    · exact Sc
   subst hj
   simp at hp
   subst hp
   obtain ⟨u,RA,h16,Nj,Oa⟩:=J9 0 _ rfl
   refine ⟨u,RA,h16,Nj,?_⟩
   have hu:u=J8 m bs[i]:=Oa
   have hrl:=hr r (List.mem_of_getElem? htb)
   refine ⟨some ⟨bs[i],0,none⟩,m,by rw [hu];simp [hrl],by simp [hrl],hm,by simp,fun x row hx=> ?_⟩
   rw [List.getElem?_map] at hx
   cases hrx:r[x]? with
   |none=>rw [hrx] at hx;cases hx
   |some p=>
    rw [hrx] at hx
    simp at hx
    subst hx
    refine ⟨rfl,⟨bs[i],0,none⟩,rfl,fun y p' hy=> ?_⟩
    have hy0:y=0:=by
     rcases Nat.eq_zero_or_pos y with h|h
     · exact h
     · rw [List.getElem?_eq_none B1] at hy;cases hy
    subst hy0
    simp at hy
    subst hy
    have:=h7 i _ r (List.getElem?_eq_getElem FU) htb x p hrx
    simpa using this
 ·
  rw [show (t==s)=false by simpa using ht] at hp
  exact p.st _ _ _ _ _ h6 (h3 t p hp)
theorem Tr.Fc {Q:Exit→Act→World→Prop} {c:Code} {e:TypeId} {bs:List Nat} {E_:List (List Pr)} {m:Nat} (s:Nat) {q:Pr} (hl:bs.length=E_.length) (hm:m≤maxLen) (hr:∀r∈E_,r.length=m) (hs:E.lookup s=some q) (hq:Pr.le q (slice 1 (bs.map fun b=>[is (J8 m b)])))
  (k:Tr L n ((s,slice 1 (E_.map fun r=>[slice 1 (r.map fun p=>[p])]))::E) (Hp M0 w0 S rs) c Q):Tr L n E (Hp M0 w0 S (DW e bs E_++rs)) c Q:=
 Tr.conv (fun _ _ h=>h.Fc hl hm hr hs hq) k
theorem Tr.Uo {Q:Exit→Act→World→Prop} {c:Code} {e:TypeId} {bs:List Nat} {E_:List (List Pr)} {m:Nat} (s:Nat) {q:Pr} (hl:bs.length=E_.length) (hm:m≤maxLen) (hr:∀r∈E_,r.length=m) (hs:E.lookup s=some q) (hq:Pr.le q (slice 1 (bs.map fun b=>[is (J8 m b)])))
  (k:Tr L n ((s,slice 1 (E_.map fun r=>[slice 1 (r.map fun p=>[p])]))::E) (Hp M0 w0 S []) c Q):Tr L n E (Hp M0 w0 S (DW e bs E_)) c Q:=
 Tr.conv (fun _ _ h=>St.Fc (e:=e) (rs:=[]) hl hm hr hs hq (by rw [List.append_nil];exact h)) k
end
end Cp
namespace Go.Proofs.YtmocaapoeefgkaaGreatDoor
open Go Cp
theorem mixed:Tryz.prog.follows .mixedOrders=true:=by kernel_rfl
theorem sz1:Au Tryz.prog 1=some 1:=by kernel_rfl
theorem z1:BO Tryz.prog 1=some [.nilFunc]:=by kernel_rfl
theorem sz2:Au Tryz.prog 2=some 1:=by kernel_rfl
theorem z2:BO Tryz.prog 2=some [.int .i64 0]:=by kernel_rfl
theorem Bg:Au Tryz.prog 3=some 1:=by kernel_rfl
theorem CX:ES Tryz.prog 3=true:=by kernel_rfl
theorem J_:Bq Tryz.prog 3=some 8:=by kernel_rfl
theorem zo3:([.int .i64 0]:List Value).all (·.oneCell')=true:=by kernel_rfl
theorem z3:BO Tryz.prog 3=some [.int .i64 0]:=by kernel_rfl
theorem gF:Au Tryz.prog 4=some 1:=by kernel_rfl
theorem gG:ES Tryz.prog 4=true:=by kernel_rfl
theorem by4:Bq Tryz.prog 4=some 1:=by kernel_rfl
theorem zo4:([.bool false]:List Value).all (·.oneCell')=true:=by kernel_rfl
theorem z4:BO Tryz.prog 4=some [.bool false]:=by kernel_rfl
theorem LY:Au Tryz.prog 5=some 1:=by kernel_rfl
theorem xp:ES Tryz.prog 5=true:=by kernel_rfl
theorem ZT:Bq Tryz.prog 5=some 1:=by kernel_rfl
theorem zo5:([.int .u8 0]:List Value).all (·.oneCell')=true:=by kernel_rfl
theorem z5:BO Tryz.prog 5=some [.int .u8 0]:=by kernel_rfl
theorem z6:BO Tryz.prog 6=some [.int .u8 0]:=by kernel_rfl
theorem z7:BO Tryz.prog 7=some [.int .i64 0,.int .i64 0,.bool false,.int .u8 0]:=by kernel_rfl
theorem LZ:Au Tryz.prog 9=some 1:=by kernel_rfl
theorem OA:ES Tryz.prog 9=true:=by kernel_rfl
theorem by9:Bq Tryz.prog 9=some 16:=by kernel_rfl
theorem zo9:([.string (ByteArray.mk #[])]:List Value).all (·.oneCell')=true:=by kernel_rfl
theorem z9:BO Tryz.prog 9=some [.string (ByteArray.mk #[])]:=by kernel_rfl
theorem z12:BO Tryz.prog 12=some [.int .u64 0]:=by kernel_rfl
theorem z13:BO Tryz.prog 13=some [.string (ByteArray.mk #[]),.int .u64 0]:=by kernel_rfl
theorem z18:BO Tryz.prog 18=some [.pointer none]:=by kernel_rfl
theorem z20:BO Tryz.prog 20=some [.nilIface]:=by kernel_rfl
theorem Mx:Au Tryz.prog 22=some 1:=by kernel_rfl
theorem FV:ES Tryz.prog 22=true:=by kernel_rfl
theorem ACX:Bq Tryz.prog 22=some 24:=by kernel_rfl
theorem z22:BO Tryz.prog 22=some [.slice none 0 0]:=by kernel_rfl
theorem z24:BO Tryz.prog 24=some [.nilFunc]:=by kernel_rfl
theorem xq:Au Tryz.prog 27=some 1:=by kernel_rfl
theorem Re:ES Tryz.prog 27=true:=by kernel_rfl
theorem xu:Au Tryz.prog 28=some 1:=by kernel_rfl
theorem ZU:ES Tryz.prog 28=true:=by kernel_rfl
theorem xw:Au Tryz.prog 29=some 1:=by kernel_rfl
theorem gH:ES Tryz.prog 29=true:=by kernel_rfl
theorem IP:Au Tryz.prog 31=some 3:=by kernel_rfl
theorem GK:FR Tryz.prog 31=true:=by kernel_rfl
theorem tP:((List.replicate 3 (.slice none 0 0)):List Value).all (·.oneCell')=true:=by kernel_rfl
theorem z31:BO Tryz.prog 31=some (List.replicate 3 (.slice none 0 0)):=by kernel_rfl
theorem JQ:Af Tryz.prog 31 0=some 0:=by kernel_rfl
theorem My:Af Tryz.prog 31 1=some 1:=by kernel_rfl
theorem Ph:Af Tryz.prog 31 2=some 2:=by kernel_rfl
theorem xx:Au Tryz.prog 32=some 1:=by kernel_rfl
theorem Pj:ES Tryz.prog 32=true:=by kernel_rfl
theorem tQ:Au Tryz.prog 33=some 1:=by kernel_rfl
theorem Rf:ES Tryz.prog 33=true:=by kernel_rfl
theorem z33:BO Tryz.prog 33=some [.slice none 0 0]:=by kernel_rfl
theorem Ci:Au Tryz.prog 35=some 3:=by kernel_rfl
theorem C5:FR Tryz.prog 35=true:=by kernel_rfl
theorem Wv:∀ps,Tryz.prog.built 35 ps=Instr.fill (fun i=>(#[(0,1),(1,1),(2,1)]:Array (Nat×Nat))[i]?) ((List.replicate 3 (.slice none 0 0)):List Value).toArray ps:=by intro ps;kernel_rfl
theorem I_:((List.replicate 3 (.slice none 0 0)):List Value).all (·.oneCell')=true:=by kernel_rfl
theorem z35:BO Tryz.prog 35=some (List.replicate 3 (.slice none 0 0)):=by kernel_rfl
theorem IQ:Af Tryz.prog 35 0=some 0:=by kernel_rfl
theorem Mz:Af Tryz.prog 35 1=some 1:=by kernel_rfl
theorem FL:Af Tryz.prog 35 2=some 2:=by kernel_rfl
theorem xy:Au Tryz.prog 38=some 1:=by kernel_rfl
theorem rU:ES Tryz.prog 38=true:=by kernel_rfl
theorem Gy:Au Tryz.prog 40=some 9:=by kernel_rfl
theorem Pk:FR Tryz.prog 40=true:=by kernel_rfl
theorem xz:Bq Tryz.prog 40=some 144:=by kernel_rfl
theorem ACY:∀ps,Tryz.prog.built 40 ps=Instr.fill (fun i=>(#[(0,1),(1,1),(2,1),(3,1),(4,1),(5,1),(6,1),(7,1),(8,1)]:Array (Nat×Nat))[i]?) ([.string (ByteArray.mk #[]),.int .i64 0,.int .i64 0,.slice none 0 0,.bool false,.slice none 0 0,.slice none 0 0,.slice none 0 0,.bool false]:List Value).toArray ps:=by intro ps;kernel_rfl
theorem gI:([.string (ByteArray.mk #[]),.int .i64 0,.int .i64 0,.slice none 0 0,.bool false,.slice none 0 0,.slice none 0 0,.slice none 0 0,.bool false]:List Value).all (·.oneCell')=true:=by kernel_rfl
theorem z40:BO Tryz.prog 40=some [.string (ByteArray.mk #[]),.int .i64 0,.int .i64 0,.slice none 0 0,.bool false,.slice none 0 0,.slice none 0 0,.slice none 0 0,.bool false]:=by kernel_rfl
theorem gJ:Af Tryz.prog 40 0=some 0:=by kernel_rfl
theorem tR:Af Tryz.prog 40 1=some 1:=by kernel_rfl
theorem Ww:Af Tryz.prog 40 2=some 2:=by kernel_rfl
theorem Pm:Af Tryz.prog 40 3=some 3:=by kernel_rfl
theorem TH:Af Tryz.prog 40 5=some 5:=by kernel_rfl
theorem tS:Af Tryz.prog 40 6=some 6:=by kernel_rfl
theorem tT:Af Tryz.prog 40 7=some 7:=by kernel_rfl
theorem tU:Au Tryz.prog 51=some 1:=by kernel_rfl
theorem gK:ES Tryz.prog 51=true:=by kernel_rfl
theorem ACZ:([.slice none 0 0]:List Value).all (·.oneCell')=true:=by kernel_rfl
theorem z51:BO Tryz.prog 51=some [.slice none 0 0]:=by kernel_rfl
theorem eF:BO Tryz.prog 54=some [.nilFunc]:=by kernel_rfl
theorem B5:Au Tryz.prog 61=some 2:=by kernel_rfl
theorem EI:FR Tryz.prog 61=true:=by kernel_rfl
theorem TI:Bq Tryz.prog 61=some 16:=by kernel_rfl
theorem x5:∀ps,Tryz.prog.built 61 ps=Instr.fill (fun i=>(#[(0,1),(1,1)]:Array (Nat×Nat))[i]?) ((List.replicate 2 (.int .i64 0)):List Value).toArray ps:=by intro ps;kernel_rfl
theorem L5:((List.replicate 2 (.int .i64 0)):List Value).all (·.oneCell')=true:=by kernel_rfl
theorem Ob:BO Tryz.prog 61=some (List.replicate 2 (.int .i64 0)):=by kernel_rfl
theorem Pn:Af Tryz.prog 61 0=some 0:=by kernel_rfl
theorem Po:Af Tryz.prog 61 1=some 1:=by kernel_rfl
theorem ACa:Au Tryz.prog 71=some 1:=by kernel_rfl
theorem x6:ES Tryz.prog 71=true:=by kernel_rfl
theorem ACb:([.nilFunc]:List Value).all (·.oneCell')=true:=by kernel_rfl
theorem z71:BO Tryz.prog 71=some [.nilFunc]:=by kernel_rfl
theorem ACc:Au Tryz.prog 75=some 1:=by kernel_rfl
theorem x7:ES Tryz.prog 75=true:=by kernel_rfl
theorem KQ:Au Tryz.prog 77=some 3:=by kernel_rfl
theorem Gn:FR Tryz.prog 77=true:=by kernel_rfl
theorem ACd:∀ps,Tryz.prog.built 77 ps=Instr.fill (fun i=>(#[(0,1),(1,1),(2,1)]:Array (Nat×Nat))[i]?) ((List.replicate 3 (.slice none 0 0)):List Value).toArray ps:=by intro ps;kernel_rfl
theorem nG:((List.replicate 3 (.slice none 0 0)):List Value).all (·.oneCell')=true:=by kernel_rfl
theorem z77:BO Tryz.prog 77=some (List.replicate 3 (.slice none 0 0)):=by kernel_rfl
theorem gL:Af Tryz.prog 77 0=some 0:=by kernel_rfl
theorem TJ:Af Tryz.prog 77 1=some 1:=by kernel_rfl
theorem tV:Af Tryz.prog 77 2=some 2:=by kernel_rfl
theorem Dc:Au Tryz.prog 81=some 2:=by kernel_rfl
theorem CL:FR Tryz.prog 81=true:=by kernel_rfl
theorem tW:∀ps,Tryz.prog.built 81 ps=Instr.fill (fun i=>(#[(0,1),(1,1)]:Array (Nat×Nat))[i]?) ((List.replicate 2 (.int .i64 0)):List Value).toArray ps:=by intro ps;kernel_rfl
theorem EB:((List.replicate 2 (.int .i64 0)):List Value).all (·.oneCell')=true:=by kernel_rfl
theorem JR:BO Tryz.prog 81=some (List.replicate 2 (.int .i64 0)):=by kernel_rfl
theorem tX:Af Tryz.prog 81 0=some 0:=by kernel_rfl
theorem tY:Af Tryz.prog 81 1=some 1:=by kernel_rfl
theorem x8:Au Tryz.prog 82=some 1:=by kernel_rfl
theorem x9:ES Tryz.prog 82=true:=by kernel_rfl
theorem JS:Au Tryz.prog 84=some 4:=by kernel_rfl
theorem Up:FR Tryz.prog 84=true:=by kernel_rfl
theorem x_:∀ps,Tryz.prog.built 84 ps=Instr.fill (fun i=>(#[(0,2),(2,1),(3,1)]:Array (Nat×Nat))[i]?) ([.int .i64 0,.int .i64 0,.int .i64 0,.slice none 0 0]:List Value).toArray ps:=by intro ps;kernel_rfl
theorem TK:([.int .i64 0,.int .i64 0,.int .i64 0,.slice none 0 0]:List Value).all (·.oneCell')=true:=by kernel_rfl
theorem nH:BO Tryz.prog 84=some [.int .i64 0,.int .i64 0,.int .i64 0,.slice none 0 0]:=by kernel_rfl
theorem tZ:Af Tryz.prog 84 0=some 0:=by kernel_rfl
theorem td:Af Tryz.prog 84 1=some 2:=by kernel_rfl
theorem gM:Af Tryz.prog 84 2=some 3:=by kernel_rfl
theorem Be:Au Tryz.prog 86=some 8:=by kernel_rfl
theorem CT:FR Tryz.prog 86=true:=by kernel_rfl
theorem TL:Bq Tryz.prog 86=some 80:=by kernel_rfl
theorem Wx:∀ps,Tryz.prog.built 86 ps=Instr.fill (fun i=>(#[(0,1),(1,1),(2,1),(3,1),(4,4)]:Array (Nat×Nat))[i]?) ([.int .i64 0,.int .i64 0,.int .i64 0,.int .i64 0,.int .i64 0,.int .i64 0,.int .i64 0,.slice none 0 0]:List Value).toArray ps:=by intro ps;kernel_rfl
theorem Gz:([.int .i64 0,.int .i64 0,.int .i64 0,.int .i64 0,.int .i64 0,.int .i64 0,.int .i64 0,.slice none 0 0]:List Value).all (·.oneCell')=true:=by kernel_rfl
theorem Km:BO Tryz.prog 86=some [.int .i64 0,.int .i64 0,.int .i64 0,.int .i64 0,.int .i64 0,.int .i64 0,.int .i64 0,.slice none 0 0]:=by kernel_rfl
theorem tg:Af Tryz.prog 86 0=some 0:=by kernel_rfl
theorem th:Af Tryz.prog 86 1=some 1:=by kernel_rfl
theorem Wy:Af Tryz.prog 86 2=some 2:=by kernel_rfl
theorem tj:Af Tryz.prog 86 3=some 3:=by kernel_rfl
theorem gN:Af Tryz.prog 86 4=some 4:=by kernel_rfl
theorem yA:∀ps,Tryz.prog.built 104 ps=Instr.fill (fun i=>(#[(0,1),(1,1)]:Array (Nat×Nat))[i]?) ([.slice none 0 0,.int .i64 0]:List Value).toArray ps:=by intro ps;kernel_rfl
theorem yB:([.slice none 0 0,.int .i64 0]:List Value).all (·.oneCell')=true:=by kernel_rfl
theorem nI:Af Tryz.prog 104 0=some 0:=by kernel_rfl
theorem nJ:Af Tryz.prog 104 1=some 1:=by kernel_rfl
theorem rV:Au Tryz.prog 127=some 1:=by kernel_rfl
theorem tq:ES Tryz.prog 127=true:=by kernel_rfl
theorem GL:Au Tryz.prog 132=some 2:=by kernel_rfl
theorem Wz:FR Tryz.prog 132=true:=by kernel_rfl
theorem yC:Bq Tryz.prog 132=some 16:=by kernel_rfl
theorem rW:∀ps,Tryz.prog.built 132 ps=Instr.fill (fun i=>(#[(0,1),(1,1)]:Array (Nat×Nat))[i]?) ((List.replicate 2 (.int .i64 0)):List Value).toArray ps:=by intro ps;kernel_rfl
theorem Uq:((List.replicate 2 (.int .i64 0)):List Value).all (·.oneCell')=true:=by kernel_rfl
theorem bP:BO Tryz.prog 132=some (List.replicate 2 (.int .i64 0)):=by kernel_rfl
theorem nK:Af Tryz.prog 132 0=some 0:=by kernel_rfl
theorem nL:Af Tryz.prog 132 1=some 1:=by kernel_rfl
theorem yD:Au Tryz.prog 133=some 1:=by kernel_rfl
theorem tu:ES Tryz.prog 133=true:=by kernel_rfl
theorem Iz:Au Tryz.prog 135=some 5:=by kernel_rfl
theorem TN:FR Tryz.prog 135=true:=by kernel_rfl
theorem rX:Bq Tryz.prog 135=some 64:=by kernel_rfl
theorem yE:∀ps,Tryz.prog.built 135 ps=Instr.fill (fun i=>(#[(0,1),(1,1),(2,1),(3,1),(4,1)]:Array (Nat×Nat))[i]?) ([.string (ByteArray.mk #[]),.int .i64 0,.int .i64 0,.slice none 0 0,.int .i64 0]:List Value).toArray ps:=by intro ps;kernel_rfl
theorem gO:([.string (ByteArray.mk #[]),.int .i64 0,.int .i64 0,.slice none 0 0,.int .i64 0]:List Value).all (·.oneCell')=true:=by kernel_rfl
theorem bQ:BO Tryz.prog 135=some [.string (ByteArray.mk #[]),.int .i64 0,.int .i64 0,.slice none 0 0,.int .i64 0]:=by kernel_rfl
theorem nM:Af Tryz.prog 135 0=some 0:=by kernel_rfl
theorem nN:Af Tryz.prog 135 1=some 1:=by kernel_rfl
theorem nO:Af Tryz.prog 135 2=some 2:=by kernel_rfl
theorem ZV:Af Tryz.prog 135 3=some 3:=by kernel_rfl
theorem nP:Af Tryz.prog 135 4=some 4:=by kernel_rfl
theorem yF:∀ps,Tryz.prog.built 139 ps=Instr.fill (fun i=>(#[(0,1),(1,1)]:Array (Nat×Nat))[i]?) ((List.replicate 2 (.int .i64 0)):List Value).toArray ps:=by intro ps;kernel_rfl
theorem yG:((List.replicate 2 (.int .i64 0)):List Value).all (·.oneCell')=true:=by kernel_rfl
theorem nQ:Af Tryz.prog 139 0=some 0:=by kernel_rfl
theorem nR:Af Tryz.prog 139 1=some 1:=by kernel_rfl
theorem EW:Au Tryz.prog 141=some 3:=by kernel_rfl
theorem JT:FR Tryz.prog 141=true:=by kernel_rfl
theorem yH:Bq Tryz.prog 141=some 40:=by kernel_rfl
theorem yI:∀ps,Tryz.prog.built 141 ps=Instr.fill (fun i=>(#[(0,2),(2,1)]:Array (Nat×Nat))[i]?) ([.int .i64 0,.int .i64 0,.slice none 0 0]:List Value).toArray ps:=by intro ps;kernel_rfl
theorem Nk:([.int .i64 0,.int .i64 0,.slice none 0 0]:List Value).all (·.oneCell')=true:=by kernel_rfl
theorem z141:BO Tryz.prog 141=some [.int .i64 0,.int .i64 0,.slice none 0 0]:=by kernel_rfl
theorem nS:Af Tryz.prog 141 0=some 0:=by kernel_rfl
theorem nT:Af Tryz.prog 141 1=some 2:=by kernel_rfl
theorem Nl:Au Tryz.prog 160=some 1:=by kernel_rfl
theorem tv:ES Tryz.prog 160=true:=by kernel_rfl
theorem yJ:Bq Tryz.prog 160=some 24:=by kernel_rfl
theorem z160:BO Tryz.prog 160=some [.slice none 0 0]:=by kernel_rfl
theorem yK:Au Tryz.prog 176=some 1:=by kernel_rfl
theorem JU:ES Tryz.prog 176=true:=by kernel_rfl
theorem yL:([.pointer none]:List Value).all (·.oneCell')=true:=by kernel_rfl
theorem ACe:BO Tryz.prog 176=some [.pointer none]:=by kernel_rfl
theorem FW:Au Tryz.prog 181=some 1:=by kernel_rfl
theorem Fe:ES Tryz.prog 181=true:=by kernel_rfl
theorem rY:Bq Tryz.prog 181=some 4:=by kernel_rfl
theorem yM:BO Tryz.prog 181=some [.int .u32 0]:=by kernel_rfl
theorem gP:Au Tryz.prog 187=some 2:=by kernel_rfl
theorem tw:FR Tryz.prog 187=true:=by kernel_rfl
theorem rZ:∀ps,Tryz.prog.built 187 ps=Instr.fill (fun i=>(#[(0,1),(1,1)]:Array (Nat×Nat))[i]?) ((List.replicate 2 (.int .i64 0)):List Value).toArray ps:=by intro ps;kernel_rfl
theorem rj:((List.replicate 2 (.int .i64 0)):List Value).all (·.oneCell')=true:=by kernel_rfl
theorem nU:Af Tryz.prog 187 0=some 0:=by kernel_rfl
theorem nV:Af Tryz.prog 187 1=some 1:=by kernel_rfl
theorem C6:Au Tryz.prog 189=some 15:=by kernel_rfl
theorem FM:FR Tryz.prog 189=true:=by kernel_rfl
theorem rq:Bq Tryz.prog 189=some 152:=by kernel_rfl
theorem yN:∀ps,Tryz.prog.built 189 ps=Instr.fill (fun i=>(#[(0,1),(1,1),(2,1),(3,2),(5,1),(6,2),(8,1),(9,1),(10,1),(11,1),(12,1),(13,2)]:Array (Nat×Nat))[i]?) ([.int .i64 0,.string (ByteArray.mk #[]),.string (ByteArray.mk #[]),.int .i64 0,.int .i64 0,.int .i64 0,.int .i64 0,.int .i64 0,.int .i64 0,.int .i64 0,.bool false,.int .i64 0,.slice none 0 0,.int .i64 0,.int .i64 0]:List Value).toArray ps:=by intro ps;kernel_rfl
theorem Kn:([.int .i64 0,.string (ByteArray.mk #[]),.string (ByteArray.mk #[]),.int .i64 0,.int .i64 0,.int .i64 0,.int .i64 0,.int .i64 0,.int .i64 0,.int .i64 0,.bool false,.int .i64 0,.slice none 0 0,.int .i64 0,.int .i64 0]:List Value).all (·.oneCell')=true:=by kernel_rfl
theorem Pp:BO Tryz.prog 189=some [.int .i64 0,.string (ByteArray.mk #[]),.string (ByteArray.mk #[]),.int .i64 0,.int .i64 0,.int .i64 0,.int .i64 0,.int .i64 0,.int .i64 0,.int .i64 0,.bool false,.int .i64 0,.slice none 0 0,.int .i64 0,.int .i64 0]:=by kernel_rfl
theorem nW:Af Tryz.prog 189 0=some 0:=by kernel_rfl
theorem nX:Af Tryz.prog 189 1=some 1:=by kernel_rfl
theorem nY:Af Tryz.prog 189 2=some 2:=by kernel_rfl
theorem nZ:Af Tryz.prog 189 3=some 3:=by kernel_rfl
theorem ng:Af Tryz.prog 189 4=some 5:=by kernel_rfl
theorem nh:Af Tryz.prog 189 5=some 6:=by kernel_rfl
theorem nj:Af Tryz.prog 189 6=some 8:=by kernel_rfl
theorem nk:Af Tryz.prog 189 7=some 9:=by kernel_rfl
theorem nq:Af Tryz.prog 189 8=some 10:=by kernel_rfl
theorem nr:Af Tryz.prog 189 9=some 11:=by kernel_rfl
theorem Ur:Af Tryz.prog 189 10=some 12:=by kernel_rfl
theorem Pq:Af Tryz.prog 189 11=some 13:=by kernel_rfl
theorem HB:Au Tryz.prog 198=some 3:=by kernel_rfl
theorem t_:FR Tryz.prog 198=true:=by kernel_rfl
theorem yO:Bq Tryz.prog 198=some 24:=by kernel_rfl
theorem yP:∀ps,Tryz.prog.built 198 ps=Instr.fill (fun i=>(#[(0,2),(2,1)]:Array (Nat×Nat))[i]?) ((List.replicate 3 (.int .i64 0)):List Value).toArray ps:=by intro ps;kernel_rfl
theorem gQ:((List.replicate 3 (.int .i64 0)):List Value).all (·.oneCell')=true:=by kernel_rfl
theorem z198:BO Tryz.prog 198=some (List.replicate 3 (.int .i64 0)):=by kernel_rfl
theorem nu:Af Tryz.prog 198 0=some 0:=by kernel_rfl
theorem nv:Af Tryz.prog 198 1=some 2:=by kernel_rfl
theorem yQ:Au Tryz.prog 204=some 1:=by kernel_rfl
theorem uA:ES Tryz.prog 204=true:=by kernel_rfl
theorem yR:([.pointer none]:List Value).all (·.oneCell')=true:=by kernel_rfl
theorem ACf:BO Tryz.prog 204=some [.pointer none]:=by kernel_rfl
theorem ZW:Au Tryz.prog 208=some 8:=by kernel_rfl
theorem JV:ES Tryz.prog 232=true:=by kernel_rfl
theorem yS:∀ps,Tryz.prog.built 234 ps=Instr.fill (fun i=>(#[(0,1),(1,1),(2,1)]:Array (Nat×Nat))[i]?) ([.int .i64 0,.slice none 0 0,.slice none 0 0]:List Value).toArray ps:=by intro ps;kernel_rfl
theorem yT:([.int .i64 0,.slice none 0 0,.slice none 0 0]:List Value).all (·.oneCell')=true:=by kernel_rfl
theorem nw:Af Tryz.prog 234 0=some 0:=by kernel_rfl
theorem IU:Af Tryz.prog 234 1=some 1:=by kernel_rfl
theorem nx:Af Tryz.prog 234 2=some 2:=by kernel_rfl
theorem yU:Au Tryz.prog 241=some 1:=by kernel_rfl
theorem gR:ES Tryz.prog 241=true:=by kernel_rfl
theorem GM:Au Tryz.prog 247=some 12:=by kernel_rfl
theorem JW:FR Tryz.prog 247=true:=by kernel_rfl
theorem ZX:∀ps,Tryz.prog.built 247 ps=Instr.fill (fun i=>(#[(0,1),(1,1),(2,2),(4,2),(6,2),(8,2),(10,1),(11,1)]:Array (Nat×Nat))[i]?) ([.int .i64 0,.string (ByteArray.mk #[]),.int .i64 0,.int .i64 0,.int .i64 0,.int .i64 0,.int .i64 0,.int .i64 0,.int .i64 0,.int .i64 0,.int .i64 0,.int .i64 0]:List Value).toArray ps:=by intro ps;kernel_rfl
theorem L6:([.int .i64 0,.string (ByteArray.mk #[]),.int .i64 0,.int .i64 0,.int .i64 0,.int .i64 0,.int .i64 0,.int .i64 0,.int .i64 0,.int .i64 0,.int .i64 0,.int .i64 0]:List Value).all (·.oneCell')=true:=by kernel_rfl
theorem W0:BO Tryz.prog 247=some [.int .i64 0,.string (ByteArray.mk #[]),.int .i64 0,.int .i64 0,.int .i64 0,.int .i64 0,.int .i64 0,.int .i64 0,.int .i64 0,.int .i64 0,.int .i64 0,.int .i64 0]:=by kernel_rfl
theorem ny:Af Tryz.prog 247 0=some 0:=by kernel_rfl
theorem yV:Au Tryz.prog 283=some 1:=by kernel_rfl
theorem TP:ES Tryz.prog 283=true:=by kernel_rfl
theorem CU:Au Tryz.prog 285=some 4:=by kernel_rfl
theorem DD:FR Tryz.prog 285=true:=by kernel_rfl
theorem ru:Bq Tryz.prog 285=some 64:=by kernel_rfl
theorem gS:∀ps,Tryz.prog.built 285 ps=Instr.fill (fun i=>(#[(0,1),(1,1),(2,1),(3,1)]:Array (Nat×Nat))[i]?) ([.int .i64 0,.slice none 0 0,.bool false,.slice none 0 0]:List Value).toArray ps:=by intro ps;kernel_rfl
theorem Ko:([.int .i64 0,.slice none 0 0,.bool false,.slice none 0 0]:List Value).all (·.oneCell')=true:=by kernel_rfl
theorem M4:BO Tryz.prog 285=some [.int .i64 0,.slice none 0 0,.bool false,.slice none 0 0]:=by kernel_rfl
theorem n5:Af Tryz.prog 285 0=some 0:=by kernel_rfl
theorem TQ:Af Tryz.prog 285 1=some 1:=by kernel_rfl
theorem n7:Af Tryz.prog 285 2=some 2:=by kernel_rfl
theorem L7:Af Tryz.prog 285 3=some 3:=by kernel_rfl
theorem ry:Au Tryz.prog 290=some 2:=by kernel_rfl
theorem yW:∀ps,Tryz.prog.built 290 ps=Instr.fill (fun i=>(#[(0,1),(1,1)]:Array (Nat×Nat))[i]?) ([.string (ByteArray.mk #[]),.int .i64 0]:List Value).toArray ps:=by intro ps;kernel_rfl
theorem rz:([.string (ByteArray.mk #[]),.int .i64 0]:List Value).all (·.oneCell')=true:=by kernel_rfl
theorem ACg:BO Tryz.prog 290=some [.string (ByteArray.mk #[]),.int .i64 0]:=by kernel_rfl
theorem n8:Af Tryz.prog 290 1=some 1:=by kernel_rfl
theorem yX:∀ps,Tryz.prog.built 300 ps=Instr.fill (fun i=>some (i*8,8)) ((List.replicate 256 (.int .i64 0)):List Value).toArray ps:=by intro ps;kernel_rfl
theorem yY:((List.replicate 256 (.int .i64 0)):List Value).all (·.oneCell')=true:=by kernel_rfl
theorem Rh:Au Tryz.prog 342=some 5:=by kernel_rfl
theorem TR:FR Tryz.prog 342=true:=by kernel_rfl
theorem EJ:∀ps,Tryz.prog.built 342 ps=Instr.fill (fun i=>(#[(0,1),(1,1),(2,1),(3,1),(4,1)]:Array (Nat×Nat))[i]?) ([.string (ByteArray.mk #[]),.int .i64 0,.int .i64 0,.slice none 0 0,.slice none 0 0]:List Value).toArray ps:=by intro ps;kernel_rfl
theorem Dp:([.string (ByteArray.mk #[]),.int .i64 0,.int .i64 0,.slice none 0 0,.slice none 0 0]:List Value).all (·.oneCell')=true:=by kernel_rfl
theorem uB:BO Tryz.prog 342=some [.string (ByteArray.mk #[]),.int .i64 0,.int .i64 0,.slice none 0 0,.slice none 0 0]:=by kernel_rfl
theorem n9:Af Tryz.prog 342 1=some 1:=by kernel_rfl
theorem n_:Af Tryz.prog 342 2=some 2:=by kernel_rfl
theorem oG:Af Tryz.prog 342 3=some 3:=by kernel_rfl
theorem oH:Af Tryz.prog 342 4=some 4:=by kernel_rfl
theorem r7:Au Tryz.prog 356=some 115:=by kernel_rfl
theorem uC:FR Tryz.prog 356=true:=by kernel_rfl
theorem yZ:∀ps,Tryz.prog.built 356 ps=Instr.fill (fun i=>some (i*5,5)) ([.string (ByteArray.mk #[]),.int .i64 0,.int .i64 0,.slice none 0 0,.slice none 0 0,.string (ByteArray.mk #[]),.int .i64 0,.int .i64 0,.slice none 0 0,.slice none 0 0,.string (ByteArray.mk #[]),.int .i64 0,.int .i64 0,.slice none 0 0,.slice none 0 0,.string (ByteArray.mk #[]),.int .i64 0,.int .i64 0,.slice none 0 0,.slice none 0 0,.string (ByteArray.mk #[]),.int .i64 0,.int .i64 0,.slice none 0 0,.slice none 0 0,.string (ByteArray.mk #[]),.int .i64 0,.int .i64 0,.slice none 0 0,.slice none 0 0,.string (ByteArray.mk #[]),.int .i64 0,.int .i64 0,.slice none 0 0,.slice none 0 0,.string (ByteArray.mk #[]),.int .i64 0,.int .i64 0,.slice none 0 0,.slice none 0 0,.string (ByteArray.mk #[]),.int .i64 0,.int .i64 0,.slice none 0 0,.slice none 0 0,.string (ByteArray.mk #[]),.int .i64 0,.int .i64 0,.slice none 0 0,.slice none 0 0,.string (ByteArray.mk #[]),.int .i64 0,.int .i64 0,.slice none 0 0,.slice none 0 0,.string (ByteArray.mk #[]),.int .i64 0,.int .i64 0,.slice none 0 0,.slice none 0 0,.string (ByteArray.mk #[]),.int .i64 0,.int .i64 0,.slice none 0 0,.slice none 0 0,.string (ByteArray.mk #[]),.int .i64 0,.int .i64 0,.slice none 0 0,.slice none 0 0,.string (ByteArray.mk #[]),.int .i64 0,.int .i64 0,.slice none 0 0,.slice none 0 0,.string (ByteArray.mk #[]),.int .i64 0,.int .i64 0,.slice none 0 0,.slice none 0 0,.string (ByteArray.mk #[]),.int .i64 0,.int .i64 0,.slice none 0 0,.slice none 0 0,.string (ByteArray.mk #[]),.int .i64 0,.int .i64 0,.slice none 0 0,.slice none 0 0,.string (ByteArray.mk #[]),.int .i64 0,.int .i64 0,.slice none 0 0,.slice none 0 0,.string (ByteArray.mk #[]),.int .i64 0,.int .i64 0,.slice none 0 0,.slice none 0 0,.string (ByteArray.mk #[]),.int .i64 0,.int .i64 0,.slice none 0 0,.slice none 0 0,.string (ByteArray.mk #[]),.int .i64 0,.int .i64 0,.slice none 0 0,.slice none 0 0,.string (ByteArray.mk #[]),.int .i64 0,.int .i64 0,.slice none 0 0,.slice none 0 0]:List Value).toArray ps:=by intro ps;kernel_rfl
theorem r8:([.string (ByteArray.mk #[]),.int .i64 0,.int .i64 0,.slice none 0 0,.slice none 0 0,.string (ByteArray.mk #[]),.int .i64 0,.int .i64 0,.slice none 0 0,.slice none 0 0,.string (ByteArray.mk #[]),.int .i64 0,.int .i64 0,.slice none 0 0,.slice none 0 0,.string (ByteArray.mk #[]),.int .i64 0,.int .i64 0,.slice none 0 0,.slice none 0 0,.string (ByteArray.mk #[]),.int .i64 0,.int .i64 0,.slice none 0 0,.slice none 0 0,.string (ByteArray.mk #[]),.int .i64 0,.int .i64 0,.slice none 0 0,.slice none 0 0,.string (ByteArray.mk #[]),.int .i64 0,.int .i64 0,.slice none 0 0,.slice none 0 0,.string (ByteArray.mk #[]),.int .i64 0,.int .i64 0,.slice none 0 0,.slice none 0 0,.string (ByteArray.mk #[]),.int .i64 0,.int .i64 0,.slice none 0 0,.slice none 0 0,.string (ByteArray.mk #[]),.int .i64 0,.int .i64 0,.slice none 0 0,.slice none 0 0,.string (ByteArray.mk #[]),.int .i64 0,.int .i64 0,.slice none 0 0,.slice none 0 0,.string (ByteArray.mk #[]),.int .i64 0,.int .i64 0,.slice none 0 0,.slice none 0 0,.string (ByteArray.mk #[]),.int .i64 0,.int .i64 0,.slice none 0 0,.slice none 0 0,.string (ByteArray.mk #[]),.int .i64 0,.int .i64 0,.slice none 0 0,.slice none 0 0,.string (ByteArray.mk #[]),.int .i64 0,.int .i64 0,.slice none 0 0,.slice none 0 0,.string (ByteArray.mk #[]),.int .i64 0,.int .i64 0,.slice none 0 0,.slice none 0 0,.string (ByteArray.mk #[]),.int .i64 0,.int .i64 0,.slice none 0 0,.slice none 0 0,.string (ByteArray.mk #[]),.int .i64 0,.int .i64 0,.slice none 0 0,.slice none 0 0,.string (ByteArray.mk #[]),.int .i64 0,.int .i64 0,.slice none 0 0,.slice none 0 0,.string (ByteArray.mk #[]),.int .i64 0,.int .i64 0,.slice none 0 0,.slice none 0 0,.string (ByteArray.mk #[]),.int .i64 0,.int .i64 0,.slice none 0 0,.slice none 0 0,.string (ByteArray.mk #[]),.int .i64 0,.int .i64 0,.slice none 0 0,.slice none 0 0,.string (ByteArray.mk #[]),.int .i64 0,.int .i64 0,.slice none 0 0,.slice none 0 0]:List Value).all (·.oneCell')=true:=by kernel_rfl
theorem ACh:BO Tryz.prog 356=some [.string (ByteArray.mk #[]),.int .i64 0,.int .i64 0,.slice none 0 0,.slice none 0 0,.string (ByteArray.mk #[]),.int .i64 0,.int .i64 0,.slice none 0 0,.slice none 0 0,.string (ByteArray.mk #[]),.int .i64 0,.int .i64 0,.slice none 0 0,.slice none 0 0,.string (ByteArray.mk #[]),.int .i64 0,.int .i64 0,.slice none 0 0,.slice none 0 0,.string (ByteArray.mk #[]),.int .i64 0,.int .i64 0,.slice none 0 0,.slice none 0 0,.string (ByteArray.mk #[]),.int .i64 0,.int .i64 0,.slice none 0 0,.slice none 0 0,.string (ByteArray.mk #[]),.int .i64 0,.int .i64 0,.slice none 0 0,.slice none 0 0,.string (ByteArray.mk #[]),.int .i64 0,.int .i64 0,.slice none 0 0,.slice none 0 0,.string (ByteArray.mk #[]),.int .i64 0,.int .i64 0,.slice none 0 0,.slice none 0 0,.string (ByteArray.mk #[]),.int .i64 0,.int .i64 0,.slice none 0 0,.slice none 0 0,.string (ByteArray.mk #[]),.int .i64 0,.int .i64 0,.slice none 0 0,.slice none 0 0,.string (ByteArray.mk #[]),.int .i64 0,.int .i64 0,.slice none 0 0,.slice none 0 0,.string (ByteArray.mk #[]),.int .i64 0,.int .i64 0,.slice none 0 0,.slice none 0 0,.string (ByteArray.mk #[]),.int .i64 0,.int .i64 0,.slice none 0 0,.slice none 0 0,.string (ByteArray.mk #[]),.int .i64 0,.int .i64 0,.slice none 0 0,.slice none 0 0,.string (ByteArray.mk #[]),.int .i64 0,.int .i64 0,.slice none 0 0,.slice none 0 0,.string (ByteArray.mk #[]),.int .i64 0,.int .i64 0,.slice none 0 0,.slice none 0 0,.string (ByteArray.mk #[]),.int .i64 0,.int .i64 0,.slice none 0 0,.slice none 0 0,.string (ByteArray.mk #[]),.int .i64 0,.int .i64 0,.slice none 0 0,.slice none 0 0,.string (ByteArray.mk #[]),.int .i64 0,.int .i64 0,.slice none 0 0,.slice none 0 0,.string (ByteArray.mk #[]),.int .i64 0,.int .i64 0,.slice none 0 0,.slice none 0 0,.string (ByteArray.mk #[]),.int .i64 0,.int .i64 0,.slice none 0 0,.slice none 0 0,.string (ByteArray.mk #[]),.int .i64 0,.int .i64 0,.slice none 0 0,.slice none 0 0]:=by kernel_rfl
theorem r9:Au Tryz.prog 360=some 2:=by kernel_rfl
theorem uD:FR Tryz.prog 360=true:=by kernel_rfl
theorem ya:∀ps,Tryz.prog.built 360 ps=Instr.fill (fun i=>some (i*1,1)) ((List.replicate 2 (.int .i64 0)):List Value).toArray ps:=by intro ps;kernel_rfl
theorem r_:((List.replicate 2 (.int .i64 0)):List Value).all (·.oneCell')=true:=by kernel_rfl
theorem ACi:BO Tryz.prog 360=some (List.replicate 2 (.int .i64 0)):=by kernel_rfl
theorem yc:∀ps,Tryz.prog.built 361 ps=Instr.fill (fun i=>some (i*2,2)) ((List.replicate 10 (.int .i64 0)):List Value).toArray ps:=by intro ps;kernel_rfl
theorem yd:((List.replicate 10 (.int .i64 0)):List Value).all (·.oneCell')=true:=by kernel_rfl
end Go.Proofs.YtmocaapoeefgkaaGreatDoor
namespace Cp
open Go Go.RowKit Go.Great
section
variable {P:Program} {L:Lg P} {n:Fm} {fz:Nat} {E:Env} {M0:Av} {w0:World} {S:Nat→Prop} {rs:List An} {o:Oper}
def lens (m:Nat):Pr where
 h _ _ v:=∃a c,v= .slice a m c
 st _M _w _M' _w' _v _ h:=h
instance yf (m:Nat):One (lens m):=⟨by rintro M w v ⟨a,c,rfl⟩;exact ⟨rfl,rfl⟩⟩
def DE (e:TypeId) (sz:Nat) (rows:List (List Pr)) (v:Value):An where
 blk:=match v with| .slice (some a) _ _=>some a.block|_=>none
 new:=true
 h M w:=∃(b cap:Nat) (spare:List Value),v= .slice (some ⟨b,0,none⟩) rows.length cap∧rows.length≤cap∧cap≤maxLen∧spare.length=(cap-rows.length)*sz∧(AE true b e (rows.flatten++spare.map is)).h M w
 st M w M' w' he hk h:=by
  obtain ⟨b,cap,spare,rfl,h1,h2,h3,h4⟩:=h
  exact ⟨b,cap,spare,rfl,h1,h2,h3,(AE true b e _).st _ _ _ _ he hk h4⟩
theorem GW {sz:Nat}:∀{rows:List (List Pr)} {i j:Nat} {row:List Pr},(∀r∈rows,r.length=sz)→rows[i]? =some row→j<sz→rows.flatten[i*sz+j]? =row[j]?
 |[],_,_,_,_,h,_=>by simp at h
 |a::l,0,j,row,hl,h,hj=>by
  simp at h;subst h
  have:=hl a AO
  rw [List.flatten_cons,Nat.zero_mul,Nat.zero_add,List.getElem?_append_left AA]
 |a::l,i+1,j,row,hl,h,hj=>by
  have h1:=hl a AO
  rw [List.flatten_cons,Nat.succ_mul,List.getElem?_append_right AA,h1,show i*sz+sz+j-sz=i*sz+j by omega]
  exact GW (fun r hr=>hl r (List.mem_cons_of_mem _ hr)) DM hj
theorem CR {sz:Nat}:∀{rows:List (List Pr)},(∀r∈rows,r.length=sz)→rows.flatten.length=rows.length*sz
 |[],_=>by simp
 |a::l,h=>by
  rw [List.flatten_cons,List.length_append,CR (fun r hr=>h r (List.mem_cons_of_mem _ hr)),h a AO,List.length_cons,Nat.succ_mul];omega
theorem Ri {M:Av} {w:World}:∀{ps:List Pr} {vs:List Value},vs.length=ps.length→(∀(k:Nat) p,ps[k]? =some p→∃u,vs[k]? =some u∧p.h M w u)→HL M w ps vs
 |[],[],_,_=>trivial
 |[],_::_,h,_=>by simp at h
 |_::_,[],h,_=>by simp at h
 |p::ps,v::vs,h,hk=>by
  refine ⟨?_,Ri DM fun k q hq=>by simpa using hk (k+1) q (by simpa using hq)⟩
  obtain ⟨u,hu,hp⟩:=hk 0 p rfl
  simp at hu;subst hu;exact hp
theorem Flat.hl {M:Av} {w:World} {sz:Nat} {rows:List (List Pr)} {news:List Value} (hsz:0<sz) (h:Flat M w sz rows news):HL M w rows.flatten news:=by
 have hl:∀r∈rows,r.length=sz:=fun r hr=>by obtain ⟨i,hi⟩:=List.mem_iff_getElem?.1 hr;exact (h.2.2 i r hi).1
 refine Ri (by rw [h.1,CR hl]) fun k p hk=> ?_
 have WB:k<rows.length*sz:=by rw [←CR hl];rcases Nat.lt_or_ge k rows.flatten.length with h|h;exact h;rw [List.getElem?_eq_none h] at hk;cases hk
 have hi:k/sz<rows.length:=Nat.div_lt_of_lt_mul (by rw [Nat.mul_comm];exact WB)
 have hj:k % sz<sz:=Nat.mod_lt _ hsz
 have he:k/sz*sz+k % sz=k:=by rw [Nat.mul_comm];exact Nat.div_add_mod k sz
 have hr:=List.getElem?_eq_getElem hi
 rw [←he,GW hl hr hj] at hk
 obtain ⟨u,hu,hp⟩:=(h.2.2 _ _ hr).2 _ p hk
 exact ⟨u,by rw [←he];exact hu,hp⟩
theorem HL.flat {M:Av} {w:World} {sz:Nat} {rows:List (List Pr)} {qs:List Pr} {cs:List Value} (hl:∀r∈rows,r.length=sz) (h:HL M w (rows.flatten++qs) cs) (h1:∀c∈cs,c.oneCell'=true):Flat M w sz rows (cs.take (rows.length*sz)):=by
 have hfl:=CR hl
 have hlen:=h.length
 refine ⟨by rw [List.length_take,hlen,List.length_append,hfl];omega,fun u hu=>h1 u (List.mem_of_mem_take hu),fun i row hi=> ?_⟩
 have hrl:=hl row (List.mem_of_getElem? hi)
 refine ⟨hrl,fun j p hp=> ?_⟩
 have hjl:j<sz:=by rw [←hrl];rcases Nat.lt_or_ge j row.length with h|h;exact h;rw [List.getElem?_eq_none h] at hp;cases hp
 have FU:i<rows.length:=by rcases Nat.lt_or_ge i rows.length with h|h;exact h;rw [List.getElem?_eq_none h] at hi;cases hi
 have hlt:i*sz+j<rows.length*sz:=by have:(i+1)*sz≤rows.length*sz:=Nat.mul_le_mul_right sz FU;rw [Nat.add_mul] at this;omega
 obtain ⟨u,hu,hh⟩:=h.at_ (i*sz+j) p (by rw [List.getElem?_append_left (by rw [hfl];exact hlt),GW hl hi hjl];exact hp)
 exact ⟨u,by rw [List.getElem?_take,if_pos hlt];exact hu,hh⟩
theorem Fp {zs:List Value} {z:Array Value} {k:Nat} (hz:z.toList=zs) (h1:zs.all (·.oneCell')=true):∀c∈(Builtin.zeroCells z k).toList,c.oneCell'=true:=by
 intro c hc
 simp only [Builtin.zeroCells,Array.toList_map,Array.toList_range,List.mem_map,List.mem_range] at hc
 obtain ⟨i,hi,rfl⟩:=hc
 have hpos:0<z.size:=by rcases Nat.eq_zero_or_pos z.size with h|h;rw [h] at hi;simp at hi;exact h
 have hm:i % z.size<z.size:=Nat.mod_lt _ hpos
 rw [getElem!_pos z _ hm]
 exact List.all_eq_true.1 h1 _ (by rw [←hz];simp)
theorem oJ {M:Av} {w:World} {t ty e:TypeId} {sz bytes:Nat} {zs:List Value} {rows:List (List Pr)} {u:Value} {j:Nat} (ht:P.underlying t=some (.slice e)) (hz:Au P e=some sz) (hby:Bq P e=some bytes) (Dr:BO P e=some zs) (hzl:zs.length=sz) (hone:zs.all (·.oneCell')=true) (hsz:0<sz)
  (h:At M0 w0 S rs M w) (hj:rs[j]? =some Bb) (hu:(slice sz rows).h M w u) (hpos:0<rows.length) (F7:rows.length≤maxLen) (hfit:rows.length*bytes≤140737488355328):
  ∃v' w' M',(Builtin.append_ #[t,t] ty #[.slice none 0 0,u]).run P w= .ok v' w'∧(lens rows.length).h M' w' v'∧Ext M w M' w'∧At M0 w0 S (rs.set j (DE e sz rows v')) M' w':=by
 unfold Au at hz
 unfold Bq at hby
 unfold BO at Dr
 cases hi:P.info? e with
 |none=>rw [hi] at hz;cases hz
 |some i=>
  rw [hi] at hz hby Dr
  simp only [Option.map_some,Option.some.injEq,Option.map_eq_some_iff] at hz hby Dr
  obtain ⟨z,WC,Dr⟩:=Dr
  have bK:z.cells.size=sz:=by rw [←hzl,←Dr];simp
  obtain ⟨A',c',rfl,hmc,Wo,mR,Gl⟩:=hu
  have Q5:(slice sz rows).h M w (.slice A' rows.length c'):=⟨A',c',rfl,hmc,Wo,mR,Gl⟩
  obtain ⟨RY,rfl⟩:∃RY,A'=some RY:=by
   obtain ⟨_,b,hb,_⟩:=Gl 0 _ (List.getElem?_eq_getElem hpos)
   exact ⟨b,hb⟩
  obtain ⟨news,hfl,hcell⟩:=Fb hsz Q5
  have hrun:=run_append_nil (P:=P) w t ty e i z ht hi WC RY rows.length c' news (by rw [hz];exact hfl.1) (fun k u hk=>(hcell k u hk).1) hpos Sq (by rw [hby];omega)
  generalize hcap:grownCap w rows.length 0 e=cap at hrun
  have hge:rows.length≤cap:=by rw [←hcap];exact grownCap_ge _ _ _ _
  have hle:cap≤maxLen:=by rw [←hcap];exact grownCap_le_maxLen _ _ _ _ F7
  generalize Q8:Builtin.zeroCells z.cells (cap-rows.length)=zc at hrun
  have hzs:zc.size=(cap-rows.length)*sz:=by rw [←Q8,size_zeroCells,bK]
  have hzo:∀c∈zc.toList,c.oneCell'=true:=by rw [←Q8];exact Fp Dr hone
  have hb:Below w.heap.size w (w.drew.alloc (.cells (news.toArray++zc) e)):=((Below.refl _ _).drew).alloc (Nat.le_refl _) _
  have h2:=Ext.below (M:=M) hb
  have EL:Ext M w (fun b o=>M b o∨b=w.heap.size) (w.drew.alloc (.cells (news.toArray++zc) e)):=by
   refine ⟨h2.size,fun a v hc hm=>⟨fun hx=> ?_,(h2.keep a v hc hm).2⟩,fun b o ho hp hm=>⟨fun hx=> ?_,(h2.obj b o ho hp hm).2⟩⟩
   ·
    rcases hx with hx|hx
    · exact B8
    · exact Eh
   ·
    rcases hx with hx|hx
    · exact B8
    · exact Ej
  have hs1:(w.drew.alloc (.cells (news.toArray++zc) e)).heap.size=w.heap.size+1:=by simp
  refine ⟨_,_,fun b o=>M b o∨b=w.heap.size,hrun,⟨_,_,rfl⟩,EL,?_⟩
  refine h.replace hj EL hb.os hb.tape hb.output (fun k hk _=>hb.block k hk) rfl (fun b o hm _=> .inl hm) (fun b o hx=> ?_) ?_ rfl (fun b hbk=> ?_)
  ·
   rcases hx with hx|hx
   · exact Lq
   · omega
  ·
   refine ⟨w.heap.size,cap,zc.toList,rfl,hge,hle,by simpa using hzs,fun o=> .inr rfl,news++zc.toList,?_,?_,?_⟩
   ·
    have hh:(w.drew.alloc (.cells (news.toArray++zc) e)).heap[w.heap.size]? =some (.cells (news.toArray++zc) e (0,0)):=heap_alloc_new w.drew _
    rw [hh];simp
   · exact ((hfl.st EL).hl hsz).app (Kh _ _ _)
   ·
    intro c hc
    rcases List.mem_append.1 hc with hc|hc
    · exact hfl.2.1 c hc
    · exact hzo c hc
  ·
   have ET:some w.heap.size=some b:=hbk
   injection ET with e1
   subst e1
   exact ⟨by rw [hs1];omega,.inr (Nat.le_refl _)⟩
theorem St.Nn {e:TypeId} {sz:Nat} {rows:List (List Pr)} {v:Value} (j:Nat) (hj:rs[j]? =some (DE e sz rows v)) {a:Act} {w:World} (h:St n E (Hp M0 w0 S rs) a w):
  ∃(b cap:Nat) (spare:List Value),v= .slice (some ⟨b,0,none⟩) rows.length cap∧rows.length≤cap∧cap≤maxLen∧spare.length=(cap-rows.length)*sz∧St n E (Hp M0 w0 S (rs.set j (AE true b e (rows.flatten++spare.map is)))) a w:=by
 obtain ⟨M,h1,h2,h3,h4⟩:=h
 have h4:At M0 w0 S rs M w:=h4
 obtain ⟨b,cap,spare,rfl,h5,h6,h7,h8⟩:=(h4.hold _ (List.mem_of_getElem? hj)).1
 exact ⟨b,cap,spare,rfl,h5,h6,h7,M,h1,h2,h3,h4.CD hj rfl rfl h8⟩
theorem Tr.Nn {Q:Exit→Act→World→Prop} {c:Code} {e:TypeId} {sz:Nat} {rows:List (List Pr)} {v:Value} (j:Nat) (hj:rs[j]? =some (DE e sz rows v))
  (k:∀(b cap:Nat) (spare:List Value),v= .slice (some ⟨b,0,none⟩) rows.length cap→rows.length≤cap→cap≤maxLen→spare.length=(cap-rows.length)*sz→Tr L n E (Hp M0 w0 S (rs.set j (AE true b e (rows.flatten++spare.map is)))) c Q):Tr L n E (Hp M0 w0 S rs) c Q:=
 fun a w hs=>let ⟨b,cap,spare,h1,h2,h3,h4,h5⟩:=hs.Nn j hj;k b cap spare h1 h2 h3 h4 a w h5
theorem Fin.Nn {Q:Exit→Act→World→Prop} {ex:Exit} {e:TypeId} {sz:Nat} {rows:List (List Pr)} {v:Value} (j:Nat) (hj:rs[j]? =some (DE e sz rows v))
  (k:∀(b cap:Nat) (spare:List Value),v= .slice (some ⟨b,0,none⟩) rows.length cap→rows.length≤cap→cap≤maxLen→spare.length=(cap-rows.length)*sz→Fin n E (Hp M0 w0 S (rs.set j (AE true b e (rows.flatten++spare.map is)))) Q ex):Fin n E (Hp M0 w0 S rs) Q ex:=
 fun a w hs=>let ⟨b,cap,spare,h1,h2,h3,h4,h5⟩:=hs.Nn j hj;k b cap spare h1 h2 h3 h4 a w h5
theorem At.frz {M:Av} {w:World} {b cap sz:Nat} {e:TypeId} {rows:List (List Pr)} {qs:List Pr} {j:Nat} (h:At M0 w0 S rs M w) (hj:rs[j]? =some (AE true b e (rows.flatten++qs))) (hl:∀r∈rows,r.length=sz) (hc:rows.length≤cap) (hm:cap≤maxLen) (hq:qs.length=(cap-rows.length)*sz):
  ∃M',Ext M w M' w∧At M0 w0 S (rs.set j (As e sz (.slice (some ⟨b,0,none⟩) rows.length cap))) M' w∧(slice sz rows).h M' w (.slice (some ⟨b,0,none⟩) rows.length cap):=by
 obtain ⟨⟨hM,cs,hh,hcs,hone⟩,hbb⟩:=h.hold _ (List.mem_of_getElem? hj)
 have Us:=(hbb b rfl).1
 have hfl:=HL.flat hl hcs hone
 have hlen:=hcs.length
 rw [List.length_append,CR hl,hq,←Nat.add_mul,show rows.length+(cap-rows.length)=cap by omega] at hlen
 have he:Ext M w (fun b' o=>M b' o∧¬(b'=b∧o<rows.length*sz)) w:=Ext.less fun _ _ h=>h.1
 refine ⟨_,he,?_,Eo (hfl.st he) hc hm fun k u hk=> ?_⟩
 ·
  refine h.replace hj he rfl rfl rfl (fun _ _ _=>rfl) rfl (fun b' o hm' hne=>⟨hm',fun hx=>hne (by rw [hx.1];rfl)⟩) (fun b' o hx=>h.bd _ _ hx.1) ?_ rfl (fun b' hbk=> ?_)
  ·
   intro a' n' c' hv hlt
   injection hv with e1 e2 e3
   injection e1 with e1
   subst e1;subst e2;subst e3
   refine ⟨⟨cs.take (rows.length*sz),hfl.1,.inr ⟨b,cap,cs.toArray,rfl,Nat.zero_le _,hh,hc,hm,by simpa using hlen,by simp⟩⟩,fun o ho=>⟨hM o,fun hx=>by omega⟩⟩
  ·
   have ET:Dj (.slice (some ⟨b,0,none⟩) rows.length cap)=some b':=hbk
   simp only [Dj] at ET
   split at ET
   · simp at ET;subst ET;exact ⟨Us,.inl rfl⟩
   · cases ET
 ·
  have WB:k<rows.length*sz:=by rw [←hfl.1];rcases Nat.lt_or_ge k (cs.take (rows.length*sz)).length with h|h;exact h;rw [List.getElem?_eq_none h] at hk;cases hk
  rw [List.getElem?_take,if_pos WB] at hk
  exact ⟨by simp [World.cell?,hh,hk],fun hx=>hx.2 ⟨rfl,WB⟩⟩
theorem St.oK {b b0 cap sz:Nat} {e T:TypeId} {new:Bool} {rows:List (List Pr)} {qs ps ps':List Pr} (j i k:Nat) {p:Pr} (hj:rs[j]? =some (AE true b e (rows.flatten++qs))) (hi:rs[i]? =some (AE new b0 T ps)) (hij:j≠i) (hk:ps[k]? =some p) (hp:Pr.le p (is (.slice (some ⟨b,0,none⟩) rows.length cap)))
  (hl:∀r∈rows,r.length=sz) (hc:rows.length≤cap) (hm:cap≤maxLen) (hq:qs.length=(cap-rows.length)*sz) (hps:ps.set k (Ae (.slice (some ⟨b,0,none⟩) rows.length cap) (slice sz rows))=ps')
  {a:Act} {w:World} (h:St n E (Hp M0 w0 S rs) a w):St n E (Hp M0 w0 S ((rs.set j (As e sz (.slice (some ⟨b,0,none⟩) rows.length cap))).set i (AE new b0 T ps'))) a w:=by
 obtain ⟨M,h1,h2,h3,h4⟩:=h
 obtain ⟨M',h5,h6,h7⟩:=At.frz h4 hj hl hc hm hq
 have hi':(rs.set j (As e sz (.slice (some ⟨b,0,none⟩) rows.length cap)))[i]? =some (AE new b0 T ps):=by rw [List.getElem?_set,if_neg hij];exact hi
 obtain ⟨h8,cs,h9,h10,h11⟩:=(h6.hold _ (List.mem_of_getElem? hi')).1
 refine ⟨M',h1,h2,fun s q hs=>q.st _ _ _ _ _ h5 (h3 s q hs),h6.CD hi' rfl rfl ⟨h8,cs,h9,?_,h11⟩⟩
 subst hps
 refine Ri (by rw [h10.length];simp) fun k' p' hk'=> ?_
 rw [List.getElem?_set] at hk'
 split at hk'
 ·
  rename_i e1
  subst e1
  split at hk'
  ·
   obtain ⟨u,hu,mu⟩:=h10.at_ k p hk
   simp at hk';subst hk'
   have:=hp _ _ _ mu
   refine ⟨u,hu,this,?_⟩
   have hu2:u= .slice (some ⟨b,0,none⟩) rows.length cap:=this
   rw [hu2];exact h7
  · cases hk'
 · exact h10.at_ k' p' hk'
theorem Tr.oK {Q:Exit→Act→World→Prop} {c:Code} {b b0 cap sz:Nat} {e T:TypeId} {new:Bool} (rows:List (List Pr)) {qs ps ps':List Pr} (j i k:Nat) {p:Pr} (hj:rs[j]? =some (AE true b e (rows.flatten++qs))) (hi:rs[i]? =some (AE new b0 T ps)) (hij:j≠i) (hk:ps[k]? =some p) (hp:Pr.le p (is (.slice (some ⟨b,0,none⟩) rows.length cap)))
  (hl:∀r∈rows,r.length=sz) (hc:rows.length≤cap) (hm:cap≤maxLen) (hq:qs.length=(cap-rows.length)*sz) (hps:ps.set k (Ae (.slice (some ⟨b,0,none⟩) rows.length cap) (slice sz rows))=ps')
  (k':Tr L n E (Hp M0 w0 S ((rs.set j (As e sz (.slice (some ⟨b,0,none⟩) rows.length cap))).set i (AE new b0 T ps'))) c Q):Tr L n E (Hp M0 w0 S rs) c Q:=
 Tr.conv (fun _ _ hs=>hs.oK j i k hj hi hij hk hp hl hc hm hq hps) k'
end
abbrev str (l:List UInt8):Pr:=is (.string ⟨l.toArray⟩)
theorem K6 (l:List UInt8):(ByteArray.mk l.toArray).toList=l:=by rw [ByteArray.toList_eq]
theorem Pt (l:List UInt8):(ByteArray.mk l.toArray).size=l.length:=rfl
section
variable {P:Program} {L:Lg P} {E:Env} {I:CS} {o:Oper}
theorem uE {t u:TypeId} {x y:Operand} {a b:List UInt8} (ho:o.op= .binOp .eql t x y u) (hx:VL E x (str a)) (hy:VL E y (str b)):Ad P I o E (bool (decide (a=b))):=
 Ad.same fun M w ac he _=>by
  have h1:ac.eval x=_:=hx.ev he Ap
  have h2:ac.eval y=_:=hy.ev he Ap
  refine ⟨_,by simp [execOp,ho,h1,h2,eqGuard,binOp,Op.stringOp,K6];rfl,?_⟩
  show Value.bool _=Value.bool _
  congr 1
  rw [Bool.eq_iff_iff];simp
theorem uF {t u:TypeId} {x y:Operand} {a b:List UInt8} (ho:o.op= .binOp .neq t x y u) (hx:VL E x (str a)) (hy:VL E y (str b)):Ad P I o E (bool (!decide (a=b))):=
 Ad.same fun M w ac he _=>by
  have h1:ac.eval x=_:=hx.ev he Ap
  have h2:ac.eval y=_:=hy.ev he Ap
  refine ⟨_,by simp [execOp,ho,h1,h2,eqGuard,binOp,Op.stringOp,K6];rfl,?_⟩
  show Value.bool _=Value.bool _
  congr 1
  rw [Bool.eq_iff_iff];simp
theorem Ut:∀(a b:List UInt8),Op.bytesLess a b=decide (Lib.compareBytes a b= -1)
 |_,[]=>by cases ‹List UInt8›<;>simp [Op.bytesLess,Lib.compareBytes]
 |[],_::_=>by simp [Op.bytesLess,Lib.compareBytes]
 |a::x,b::y=>by
  rw [Op.bytesLess,Ut x y,Lib.compareBytes]
  by_cases h1:a<b
  · simp [h1]
  ·
   by_cases h2:b<a
   ·
    have h3:a≠b:=fun e=>by subst e;exact h1 h2
    simp [h1,h2,h3]
   ·
    have h3:a=b:=UInt8.le_antisymm (UInt8.not_lt.1 h2) (UInt8.not_lt.1 h1)
    simp [h1,h2,h3]
theorem K7 {t u:TypeId} {x y:Operand} {a b:List UInt8} (ho:o.op= .binOp .geq t x y u) (hx:VL E x (str a)) (hy:VL E y (str b)):Ad P I o E (bool (!decide (Lib.compareBytes a b= -1))):=
 Ad.same fun M w ac he _=>by
  have h1:ac.eval x=_:=hx.ev he Ap
  have h2:ac.eval y=_:=hy.ev he Ap
  exact ⟨_,by simp [execOp,ho,h1,h2,eqGuard,binOp,Op.stringOp,K6,Ut],rfl⟩
theorem oQ {t:TypeId} {x:Operand} {a:List UInt8} (ho:o.op= .call { callee:= .builtin .len,args:= #[x],argTypes:= #[t] }) (ht:P.underlying t=some .string) (hx:VL E x (str a)):Ad P I o E (int ((a.length:Nat):Int)):=
 Ad.same fun M w ac he _=>by
  have h1:ac.eval x=_:=hx.ev he Cn
  exact ⟨.int .i64 a.length,by simp [execOp,ho,resolve,invoke,builtin,Builtin.len_,h1,run_underlying ht,goInt,Pt],rfl⟩
theorem TS {t:TypeId} {x y:Operand} {k:IntKind} {a:List UInt8} {i:Int} {c:UInt8} (ho:o.op= .index t x y) (ht:P.underlying t=some .string) (hx:VL E x (str a)) (hy:VL E y (is (.int k i))) (h0:0≤i) (hc:a[i.toNat]? =some c):Ad P I o E (is (.int .u8 c.toNat)):=
 Ad.same fun M w ac he _=>by
  have h1:ac.eval x=_:=hx.ev he Ap
  have h2:ac.eval y=_:=hy.ev he Ap
  refine ⟨_,?_,rfl⟩
  have hlt:i.toNat<a.length:=by rcases Nat.lt_or_ge i.toNat a.length with h|h;exact h;rw [List.getElem?_eq_none h] at hc;cases hc
  have h3:(ByteArray.mk a.toArray)[i.toNat]? =some c:=by
   rw [getElem?_pos (ByteArray.mk a.toArray) i.toNat (by rw [Pt];exact hlt)]
   rw [List.getElem?_eq_getElem hlt] at hc
   simp only [Option.some.injEq] at hc
   rw [←hc]
   rfl
  simp [execOp,ho,h1,h2,Instr.index,asIntOf,run_underlying ht,h0,h3]
theorem Pu {s t e:TypeId} {x:Operand} {a:List UInt8} (ho:o.op= .convert s t x) (hs:P.underlying s=some .string) (ht:P.underlying t=some (.slice e)) (he:P.underlying e=some (.int .u8)) (hx:VL E x (str a)) (hm:a.length≤maxLen):Ad P I o E (slice 1 (a.map fun c=>[is (.int .u8 c.toNat)])):=
 Ad.val fun M w ac hev hI=>by
  have h1:ac.eval x=_:=hx.ev hev Ap
  have hrun:=Lib.run_convert_string_bytes (P:=P) w s t e ⟨a.toArray⟩ hs ht he
  have hcap:=grownCap_ge w a.length 0 e
  have hcm:=grownCap_le_maxLen w a.length 0 e hm
  refine ⟨.slice (some ⟨w.heap.size,0,none⟩) a.length (grownCap w a.length 0 e),Lib.bytesWorld w e ⟨a.toArray⟩,by simp [execOp,ho,h1,hrun];exact ⟨rfl,rfl⟩,?_,?_⟩
  ·
   have hbd:Bd M w:=I.bd _ _ hI
   refine ⟨_,grownCap w a.length 0 e,by rw [List.length_map],by rw [List.length_map];exact hcap,hcm,(fun h=>by cases h),fun i row hr=> ?_⟩
   rw [List.getElem?_map] at hr
   cases hc:a[i]? with
   |none=>rw [hc] at hr;cases hr
   |some c=>
    rw [hc] at hr
    simp only [Option.map_some,Option.some.injEq] at hr
    subst hr
    have FU:i<a.length:=by rcases Nat.lt_or_ge i a.length with h|h;exact h;rw [List.getElem?_eq_none h] at hc;cases hc
    refine ⟨rfl,_,rfl,fun j p hp=> ?_⟩
    have hj:j=0:=by
     rcases Nat.eq_zero_or_pos j with h|h
     · exact h
     · exact Sc
    subst hj
    simp only [List.getElem?_cons_zero,Option.some.injEq] at hp
    subst hp
    refine ⟨.int .u8 c.toNat,?_,fun hmm=> ?_,rfl,rfl⟩
    ·
     rw [show Addr.add ⟨w.heap.size,0,none⟩ (i*1+0)=⟨w.heap.size,i,none⟩ by unfold Addr.add;split<;>simp_all]
     rw [Lib.bytesWorld_cell w e ⟨a.toArray⟩ i (by rw [Pt];exact FU)]
     have:([]++a).getD i 0=c:=by simp [hc]
     simp [hc]
    · have:=hbd _ _ hmm;simp at this
  · exact Lib.bytesWorld_below w e ⟨a.toArray⟩
theorem TT {a:List UInt8} {k:Nat} {c:UInt8} (h:a[k]? =some c):a[((k:Nat):Int).toNat]? =some c:=h
theorem Uu {t e:TypeId} {x y:Operand} {k:IntKind} {i:Int} {len sz:Nat} {ps qs:List Pr} (ho:o.op= .index t x y) (ht:P.underlying t=some (.array len e)) (he:FR P e=true) (hz:Au P e=some sz) (hx:VL E x (agg ps)) (hy:VL E y (is (.int k i))) (h0:0≤i) (hl:i<len)
  (hq:(ps.drop (i.toNat*sz)).take sz=qs):Ad P I o E (agg qs):=
 Ad.same fun M w ac hev _=>by
  obtain ⟨cs,h1,ho1,h2⟩:=hx.ev hev Ap
  have h3:ac.eval y=_:=hy.ev hev Ap
  refine ⟨.agg (cs.toArray.extract (i.toNat*sz) (i.toNat*sz+sz)),?_,(cs.drop (i.toNat*sz)).take sz,?_,fun c hc=>ho1 c (List.mem_of_mem_drop (List.mem_of_mem_take hc)),by rw [←hq];exact (h2.drop _).take _⟩
  · simp [execOp,ho,h1,h3,Instr.index,asIntOf,run_underlying ht,h0,hl,CA hz,part,En he]
  ·
   congr 1
   apply Array.toList_inj.1
   simp [List.extract,Nat.add_sub_cancel_left]
theorem TW {M:Av} {w:World} {v:Value} {xs:List Value} (h:(agg (xs.map is)).h M w v):v= .agg xs.toArray:=by
 obtain ⟨cs,rfl,ho,h2⟩:=h
 congr 1
 have:cs=xs:=by
  clear ho
  induction xs generalizing cs with
  |nil=>cases cs with
   |nil=>rfl
   |cons c cs=>exact h2.elim
  |cons x xs ih=>cases cs with
   |nil=>exact h2.elim
   |cons c cs=>rw [ih cs h2.2,show c=x from h2.1]
 rw [this]
theorem Pv {t u:TypeId} {x y:Operand} {r:Bool} (xs ys:List Value) (ho:o.op= .binOp .eql t x y u) (hx:VL E x (agg (xs.map is))) (hy:VL E y (agg (ys.map is))) (hg:P.eqGuardType P.depth t=false) (hr:∀w,(Op.equal t (.agg xs.toArray) (.agg ys.toArray)).run P w= .ok r w):Ad P I o E (bool r):=
 Ad.same fun M w ac he _=>by
  have h1:=TW (hx.ev he Ap)
  have h2:=TW (hy.ev he Ap)
  exact ⟨_,by simp [execOp,ho,h1,h2,eqGuard,hg,binOp,hr w],rfl⟩
theorem Pw {t u:TypeId} {x y:Operand} {r:Bool} (xs ys:List Value) (ho:o.op= .binOp .neq t x y u) (hx:VL E x (agg (xs.map is))) (hy:VL E y (agg (ys.map is))) (hg:P.eqGuardType P.depth t=false) (hr:∀w,(Op.equal t (.agg xs.toArray) (.agg ys.toArray)).run P w= .ok r w):Ad P I o E (bool (!r)):=
 Ad.same fun M w ac he _=>by
  have h1:=TW (hx.ev he Ap)
  have h2:=TW (hy.ev he Ap)
  exact ⟨_,by simp [execOp,ho,h1,h2,eqGuard,hg,binOp,hr w],rfl⟩
theorem eqS {P:Program} {w:World} {d:Nat} {t:TypeId} {fs:Array Field} {xs ys:Array Value} {r:Bool} (ht:P.underlying t=some (.struct fs)) (hp:P.stoodInHeld t=false) (h:(Op.eqFields d xs ys fs.toList).run P w= .ok r w):(Op.equalIn (d+1) t (.agg xs) (.agg ys)).run P w= .ok r w:=by
 have hf:P.fieldsOf t=fs:=by unfold Program.fieldsOf;rw [ht]
 rw [run_equalIn_struct w d t xs ys (by rw [hf];exact ht) hp,hf];exact h
theorem TX {P:Program} {w:World} {d:Nat} {xs ys:Array Value}:(Op.eqFields d xs ys []).run P w= .ok true w:=by simp [Op.eqFields]
theorem Hr {P : Program} {w : World} {d : Nat} {xs ys : Array Value} {f : Field} {fs : List Field} {vx vy : Value} {r q : Bool} (hn : f.name ≠ "_") (ha : (part f.type xs f.offset).run P w = .ok vx w) (hb : (part f.type ys f.offset).run P w = .ok vy w)
  (he:(Op.equalIn d f.type vx vy).run P w= .ok r w) (hr:(Op.eqFields d xs ys fs).run P w= .ok q w):(Op.eqFields d xs ys (f::fs)).run P w= .ok (r&&q) w:=by
 simp only [Op.eqFields,hn,ne_eq,not_false_eq_true,if_true,Sem.run_bind,ha,hb,he,Result.andThen_ok]
 cases r
 · simp
 · simpa using hr
theorem DR {P:Program} {w:World} {t:TypeId} {cs:Array Value} {off:Nat} {v:Value} (h1:ES P t=true) (hv:cs[off]? =some v):(part t cs off).run P w= .ok v w:=by
 simp [part,D8 h1,hv]
theorem KA {P:Program} {w:World} {d:Nat} {t:TypeId} {k:IntKind} {a b:Int} (h:P.underlying t=some (.int k)):(Op.equalIn (d+1) t (.int k a) (.int k b)).run P w= .ok (decide (a=b)) w:=by
 rw [run_equalIn_int w d t k k a b h];rfl
end
section
variable {P:Program} {L:Lg P} {E:Env} {I:CS} {o:Oper}
theorem Px {M:Av} {w:World} {sz:Nat} {rows:List (List Pr)} {A:Option Addr} {cap lo hi:Nat} (h:(slice sz rows).h M w (.slice A rows.length cap)) (h1:lo≤hi) (h2:hi≤rows.length):
  (slice sz ((rows.take hi).drop lo)).h M w (.slice (if cap=lo then A else A.map (·.add (lo*sz))) (hi-lo) (cap-lo)):=by
 obtain ⟨A',cap',hv,hc,hm,hA,hr⟩:=h
 injection hv with e1 _ e3
 subst e1;subst e3
 have hlen:((rows.take hi).drop lo).length=hi-lo:=by rw [List.length_drop,List.length_take];omega
 refine ⟨_,cap-lo,by rw [hlen],by rw [hlen];omega,by omega,fun h=> ?_,fun i row hi'=> ?_⟩
 ·
  split at h
  · have:=hA h;omega
  ·
   cases hA2:A with
   |none=>have:=hA hA2;omega
   |some a=>rw [hA2] at h;cases h
 ·
  rw [List.getElem?_drop,List.getElem?_take] at hi'
  split at hi'
  ·
   rename_i hlt
   obtain ⟨h3,ad,h4,h5⟩:=hr _ row hi'
   subst h4
   rw [if_neg AA]
   refine ⟨h3,_,rfl,fun j p hp=> ?_⟩
   obtain ⟨u,h6,h7,h8,h9⟩:=h5 j p hp
   refine ⟨u,?_,?_,h8,h9⟩
   · rw [add_add,show lo*sz+(i*sz+j)=(lo+i)*sz+j by rw [Nat.add_mul];omega];exact h6
   · rw [He,Ls,show ad.off+lo*sz+(i*sz+j)=ad.off+((lo+i)*sz+j) by rw [Nat.add_mul];omega];exact h7
  · cases hi'
theorem Ff {t e:TypeId} {x y:Operand} {k:IntKind} {h:Int} {sz:Nat} {rows:List (List Pr)} (ho:o.op= .slice t x none (some y) none) (ht:P.underlying t=some (.slice e)) (hz:Au P e=some sz) (hx:VL E x (slice sz rows)) (hy:VL E y (is (.int k h))) (h0:0≤h) (hl:h≤rows.length):
  Ad P I o E (slice sz (rows.take h.toNat)):=
 Ad.same fun M w a he _=>by
  have h1:=hx.ev he Ap
  have h3:a.eval y=_:=hy.ev he Ap
  obtain ⟨A,cap,hv,hc,hm,hA,hr⟩:=h1
  have h2:=Px (lo:=0) (hi:=h.toNat) (show (slice sz rows).h M w (.slice A rows.length cap) from ⟨A,cap,rfl,hc,hm,hA,hr⟩) AA AA
  refine ⟨_,?_,by simpa using h2⟩
  have hb:h≤(cap:Int):=by omega
  simp [execOp,ho,hv,h3,Instr.sliceAt,Instr.slice,run_underlying ht,Instr.sliceBounds,Instr.sliceBound,asIntOf,h0,hb,CA hz]
theorem IV {t e:TypeId} {x y:Operand} {k:IntKind} {l:Int} {sz:Nat} {rows:List (List Pr)} (ho:o.op= .slice t x (some y) none none) (ht:P.underlying t=some (.slice e)) (hz:Au P e=some sz) (hx:VL E x (slice sz rows)) (hy:VL E y (is (.int k l))) (h0:0≤l) (hl:l≤rows.length):
  Ad P I o E (slice sz (rows.drop l.toNat)):=
 Ad.same fun M w a he _=>by
  have h1:=hx.ev he Ap
  have h3:a.eval y=_:=hy.ev he Ap
  obtain ⟨A,cap,hv,hc,hm,hA,hr⟩:=h1
  have h2:=Px (lo:=l.toNat) (hi:=rows.length) (show (slice sz rows).h M w (.slice A rows.length cap) from ⟨A,cap,rfl,hc,hm,hA,hr⟩) AA (Nat.le_refl _)
  rw [List.take_length] at h2
  refine ⟨_,?_,h2⟩
  simp [execOp,ho,hv,h3,Instr.sliceAt,Instr.slice,run_underlying ht,Instr.sliceBounds,Instr.sliceBound,asIntOf,h0,hl,CA hz]
end
abbrev L8:Pr:=is (.tuple #[])
section
variable {P:Program} {L:Lg P} {n:Fm} {fz:Nat} {E:Env} {M0:Av} {w0:World} {S:Nat→Prop} {rs:List An} {o:Oper} {g:Func} {M1:Av} {w1:World}
theorem results0 {g:Func} {a:Act} {w:World} (hr:g.results= #[]):(results g a.tmps).run P w= .ok (.tuple #[]) w:=by
 rw [K5,hr];simp [Sem.run_bind]
theorem Fin.uG (hr:g.results= #[]):Fin ⟨fz,[]⟩ E (Hp M0 w0 II rs) (bodyPost P g (UZ M0 w0 L8)) .normal:=by
 rintro a w ⟨M,_,hd,he,hi⟩
 obtain ⟨h1,h2⟩:=Bm.Dw M0 w0 M w hi
 exact ⟨hd,_,results0 hr,_,rfl,rfl,h2⟩
theorem Fin.gT {r:An} (hr:g.results= #[]):Fin ⟨fz,[]⟩ E (Hp M0 w0 S (r::Ak M1 w1::rs)) (bodyPost P g (NY M0 w0 S rs M1 w1 L8 (fun _=>r))) .normal:=by
 rintro a w ⟨M,_,hd,he,hi⟩
 obtain ⟨h1,h2⟩:=fZ hi
 exact ⟨hd,_,results0 hr,_,M,rfl,rfl,h1,h2⟩
def Uv (E:Env) (v0:Value) (q0:Pr):List Operand→List Pr→Prop
 |[],[]=>True
 |x::xs,p::ps=>(VL E x p∨(VL E x (is v0)∧Pr.le (Ae v0 q0) p))∧Uv E v0 q0 xs ps
 |_,_=>False
theorem Uv.ev {M M':Av} {w:World} {a:Act} {v0:Value} {q0:Pr} (he:Cd M w E o a) (hx:Ext M w M' w) (h0:q0.h M' w v0):∀{xs:List Operand} {ps:List Pr},(∀x∈xs,x∈o.op.operands.toList)→Uv E v0 q0 xs ps→HL M' w ps (xs.map a.eval)
 |[],[],_,_=>trivial
 |[],_::_,_,h=>h.elim
 |_::_,[],_,h=>h.elim
 |x::xs,p::ps,hm,h=>by
  refine ⟨?_,Uv.ev he hx h0 (fun y hy=>hm y (List.mem_cons_of_mem _ hy)) h.2⟩
  rcases h.1 with h1|⟨h1,h2⟩
  · exact p.st _ _ _ _ _ hx (h1.ev he (hm x AO))
  ·
   have h3:a.eval x=v0:=h1.ev he (hm x AO)
   exact h2 _ _ _ ⟨h3,by rw [h3];exact h0⟩
class JA (p:Pr):Prop where
 free:∀M M' w v,p.h M w v→p.h M' w v
instance ABO (u:Value):JA (is u):=⟨fun _ _ _ _ h=>h⟩
instance wK (m:Nat):JA (lens m):=⟨fun _ _ _ _ h=>h⟩
theorem oV {f:FuncId} {xs:Array Operand} {ts:Array TypeId} {ps:List Pr} {res:Pr} [JA res] {j d b cap sz:Nat} {e:TypeId} (rows:List (List Pr)) {qs:List Pr} (hg:o.guard=none) (hd:o.dst=some d) (hn:d<n) (ho:o.op= .call { callee:= .value (.func f),args:=xs,argTypes:=ts }) (hf:BD P f ps res)
  (hl:∀r∈rows,r.length=sz) (hc:rows.length≤cap) (hm:cap≤maxLen) (hq:qs.length=(cap-rows.length)*sz)
  (hv:Uv E (.slice (some ⟨b,0,none⟩) rows.length cap) (slice sz rows) xs.toList ps):Di P M0 w0 S n j (SR.c (AE true b e (rows.flatten++qs))) (SR.c (AE true b e (rows.flatten++qs))) o E res:=by
 refine ⟨hg,fun M w a rs hsz he hI hj=> ?_⟩
 have hj':rs[j]? =some (AE true b e (rows.flatten++qs)):=hj
 obtain ⟨M',hx,OW,hs⟩:=At.frz hI hj' hl hc hm hq
 have h1:=hv.ev (o:=o) he hx hs (xs:=xs.toList) (fun x hx=>by simp [ho,Op.operands,Call.operands];exact .inr Gf)
 have hrun:(execOp a.eval o).run P w= .ok (.enter f (xs.toList.map a.eval).toArray) w:=by
  simp [execOp,ho,resolve,Deferred.ofValue,Act.eval,invoke,Cz hf.1,Fy xs]
 rw [hrun]
 refine (hf.2 M' w _ OW.bd h1).mono ?_
 rintro e' w' ⟨v,rfl,h2,h3⟩
 refine ⟨v,M,rfl,JA.free _ _ _ _ h2,Ext.below h3,?_⟩
 have JL:rs.set j (SR.at_ (a.put o.dst v) (SR.c (AE true b e (rows.flatten++qs))))=rs:=by
  rw [show SR.at_ (a.put o.dst v) (SR.c (AE true b e (rows.flatten++qs)))=AE true b e (rows.flatten++qs) from xW _ _]
  have hjl:j<rs.length:=by rcases Nat.lt_or_ge j rs.length with h|h;exact h;rw [List.getElem?_eq_none h] at hj';cases hj'
  rw [List.getElem?_eq_getElem hjl] at hj'
  simp only [Option.some.injEq] at hj'
  rw [←hj',List.set_getElem_self]
 rw [JL]
 exact (Hp M0 w0 S rs).st _ _ _ h3 hI
end
def Uw (es:List (Value×Value)):Array MapEntry:=(es.zipIdx.map fun p=>({ key:=p.1.1,val:=p.1.2,born:=p.2 }:MapEntry)).toArray
theorem Py (es:List (Value×Value)) (i:Nat):(Uw es)[i]? =(es[i]?).map fun p=>{ key:=p.1,val:=p.2,born:=i }:=by
 simp [Uw,List.getElem?_zipIdx]
 cases es[i]? <;>simp
structure ACj (P:Program) (T kt et:TypeId) {κ:Type} [DecidableEq κ] (enc:κ→Value):Prop where
 und:P.underlying T=some (.map kt et)
 zero:∀w,(zeroValue et).run P w= .ok (.int .i64 0) w
 eq:∀a b w,(Op.equal kt (enc a) (enc b)).run P w= .ok (decide (a=b)) w
 chk:∀e a w,(Instr.checkKey e 10000 kt (enc a)).run P w= .ok () w
 ACk:∃d,P.underlying kt=some d∧((∀a b,Instr.sameNow d (enc a) (enc b)=none)∨∀a b,Instr.sameNow d (enc a) (enc b)=some (decide (a=b)))
 bits:∀a,Instr.sameBits 10000 (enc a) (enc a)=true
section
variable {P:Program} {L:Lg P} {n:Fm} {fz:Nat} {E:Env} {M0:Av} {w0:World} {S:Nat→Prop} {rs:List An} {o:Oper} {κ:Type} [DecidableEq κ] {enc:κ→Value}
abbrev Pz (enc:κ→Value) (es:List (κ×Int)):List (Value×Value):=es.map fun p=>(enc p.1,.int .i64 p.2)
def uH (enc:κ→Value) (b:Nat) (es:List (κ×Int)):An where
 blk:=some b
 new:=true
 h M w:=(∀o,M b o)∧w.heap[b]? =some (.map (Uw (Pz enc es)) es.length)
 st M w M' w' he hk h:=by
  obtain ⟨h1,h2⟩:=hk b rfl
  exact ⟨fun o=>h2 o (h.1 o),h1.trans h.2⟩
def look (es:List (κ×Int)) (k:κ):Option Int:=(es.find? fun p=>decide (k=p.1)).map (·.2)
theorem At.yg {M:Av} {w:World} {obj:Obj} {r:An} (h:At M0 w0 S rs M w) (hb:r.blk=some w.heap.size) (hn:r.new=true) (hr:r.h (fun b o=>M b o∨b=w.heap.size) (w.alloc obj)):
  At M0 w0 S (r::rs) (fun b o=>M b o∨b=w.heap.size) (w.alloc obj)∧Ext M w (fun b o=>M b o∨b=w.heap.size) (w.alloc obj):=by
 have Us:Below w.heap.size w (w.alloc obj):=(Below.refl _ _).alloc (Nat.le_refl _) _
 have hsz:(w.alloc obj).heap.size=w.heap.size+1:=by simp
 have he:Ext M w (fun b o=>M b o∨b=w.heap.size) (w.alloc obj):=by
  have h2:=Ext.below (M:=M) Us
  refine ⟨h2.size,fun a v hc hm=>⟨fun hx=> ?_,(h2.keep a v hc hm).2⟩,fun b o ho hp hm=>⟨fun hx=> ?_,(h2.obj b o ho hp hm).2⟩⟩
  ·
   rcases hx with hx|hx
   · exact B8
   · exact Eh
  ·
   rcases hx with hx|hx
   · exact B8
   · exact Ej
 have hI:=(Hp M0 w0 S rs).st _ _ _ Us h
 refine ⟨⟨hI.m0,fun b o hm=> .inl (hI.m b o hm),hI.os,hI.tape,hI.output,hI.size,hI.block,fun b o hm=> ?_,fun r' hr'=> ?_,?_⟩,he⟩
 ·
  rcases hm with hm|hm
  · exact hI.bd b o hm
  · omega
 ·
  rcases List.mem_cons.1 hr' with rfl|hr'
  ·
   refine ⟨hr,fun b hbk=> ?_⟩
   rw [hb] at hbk
   injection hbk with hbk
   subst hbk
   exact ⟨by omega,by rw [hn];simpa using h.size⟩
  ·
   obtain ⟨h3,h4⟩:=h.hold r' hr'
   exact ⟨r'.st _ _ _ _ he (fun b hbk=>⟨Us.block b (h4 b hbk).1,fun _ x=> .inl x⟩) h3,fun b hbk=>⟨by have:=(h4 b hbk).1;omega,(h4 b hbk).2⟩⟩
 ·
  refine List.Pairwise.cons (fun r' hr' b hbk ET=> ?_) h.nd
  rw [hb] at hbk
  injection hbk with hbk
  have:=((h.hold r' hr').2 b ET).1
  omega
def DN (w:World) (b:Nat) (o:Obj):World:={ w with heap:=w.heap.setIfInBounds b o }
theorem oW {w:World} {b:Nat} {o:Obj} (h:b<w.heap.size):(DN w b o).heap[b]? =some o:=by
 show (w.heap.setIfInBounds b o)[b]? =_
 rw [Array.getElem?_setIfInBounds];simp [h]
theorem K8 {w:World} {b k:Nat} {o:Obj} (h:k≠b):(DN w b o).heap[k]? =w.heap[k]? :=by
 show (w.heap.setIfInBounds b o)[k]? =_
 rw [Array.getElem?_setIfInBounds,if_neg (fun e=>h e.symm)]
theorem At.ACl {M:Av} {w:World} {obj:Obj} {r r':An} {j b:Nat} (h:At M0 w0 S rs M w) (hj:rs[j]? =some r) (hb:r.blk=some b) (hb':r'.blk=some b) (hn:r.new=true) (hn':r'.new=true) (hM:∀o,M b o) (hr:r'.h M (DN w b obj)):
  At M0 w0 S (rs.set j r') M (DN w b obj)∧Ext M w M (DN w b obj):=by
 have hlt:=((h.hold r (List.mem_of_getElem? hj)).2 b hb).1
 have hsz:(DN w b obj).heap.size=w.heap.size:=by simp [DN]
 have he:Ext M w M (DN w b obj):=by
  refine ⟨by omega,fun a v hc hm=>⟨hm,?_⟩,fun k o ho hp hm=>⟨hm,?_⟩⟩
  · rw [World.cell?_of_block (w:=w) (K8 (fun e=>hm (by rw [e];exact hM _)))];exact hc
  · rw [K8 (fun e=>hm (by rw [e];exact hM _))];exact ho
 refine ⟨h.replace hj he rfl rfl rfl (fun k _ hk=>K8 (fun e=>hk (by rw [hb,e]))) hn (fun _ _ hm _=>hm) (fun k o hm=>by rw [hsz];exact h.bd k o hm) hr hn' (fun k hk=> ?_),he⟩
 rw [hb'] at hk
 injection hk with hk
 subst hk
 exact ⟨by omega,.inl hb⟩
variable {Q:Exit→Act→World→Prop} {ops:Array Oper} {r:List Oper}
def Np (it b m:Nat) (seen:List Nat):An where
 blk:=some it
 new:=true
 h M w:=(∀o,M it o)∧w.heap[it]? =some (.mapIter (some b) m seen.toArray m)
 st M w M' w' he hk h:=by
  obtain ⟨h1,h2⟩:=hk it rfl
  exact ⟨fun o=>h2 o (h.1 o),h1.trans h.2⟩
theorem TO.range {d j b:Nat} {T kt et:TypeId} {x:Operand} {es:List (κ×Int)} (hT:ACj P T kt et enc) (hg:o.guard=none) (hd:o.dst=some d) (hn:d<n) (ho:o.op= .range T x) (hx:VL E x (is (.map (some b)))) (hj:rs[j]? =some (uH enc b es))
  (k:∀it,TO P n ops r ((d,ptr it 0)::E) (Hp M0 w0 S (Np it b es.length []::rs)) Q):TO P n ops (o::r) E (Hp M0 w0 S rs) Q:=
 TO.bI hg fun K M w a hsz hdf he hI hK=>by
  have h1:a.eval x=_:=hx.ev (o:=o) (CF he) Ap
  obtain ⟨_,hh⟩:=(At.hold hI _ (List.mem_of_getElem? hj)).1
  refine TO.val (v:= .pointer (some ⟨w.heap.size,0,none⟩)) (w':=w.alloc (.mapIter (some b) es.length #[] es.length)) ?_ ?_
  · simp [execOp,ho,h1,run_range_map w T kt et b _ _ hT.und hh]
  ·
   obtain ⟨h2,h3⟩:=At.yg (obj:= .mapIter (some b) es.length #[] es.length) (r:=Np w.heap.size b es.length []) hI rfl rfl ⟨fun _=> .inr rfl,by rw [heap_alloc_new]⟩
   refine hK _ _ _ _ (k w.heap.size) ⟨_,by rw [Bp];exact hsz,by rw [put_defers];exact hdf,?_,h2⟩
   intro s p hp
   simp only [List.lookup] at hp
   by_cases hs:s=d
   · exact PB
   ·
    rw [show (s==d)=false by simpa using hs] at hp
    rw [hd,BN hs]
    exact p.st _ _ _ _ _ h3 (he s p hp)
theorem mem_left {es:List (Value×Value)} {seen:List Nat} {e:MapEntry}:e∈(leftOf (Uw es) seen.toArray).toList↔∃q p,es[q]? =some p∧q∉seen∧e={ key:=p.1,val:=p.2,born:=q }:=by
 unfold leftOf
 rw [Array.toList_filter,List.mem_filter]
 constructor
 ·
  rintro ⟨h1,h2⟩
  obtain ⟨q,hq⟩:=List.mem_iff_getElem?.1 h1
  rw [Array.getElem?_toList,Py] at hq
  cases hp:es[q]? with
  |none=>rw [hp] at hq;cases hq
  |some p=>
   rw [hp] at hq
   simp only [Option.map_some,Option.some.injEq] at hq
   subst hq
   exact ⟨q,p,hp,by simpa using h2,rfl⟩
 ·
  rintro ⟨q,p,hp,hq,rfl⟩
  exact ⟨List.mem_iff_getElem?.2 ⟨q,by rw [Array.getElem?_toList,Py,hp];rfl⟩,by simpa using hq⟩
theorem TY {w:World} (ty:TypeId) {it b m:Nat} {seen:List Nat} {es:List (Value×Value)} (hm:es.length=m) (hit:w.heap[it]? =some (.mapIter (some b) m seen.toArray m)) (hb:w.heap[b]? =some (.map (Uw es) m)):
  ((∀q,q<m→q∈seen)∧(Instr.next (.pointer (some ⟨it,0,none⟩)) false ty).run P w= .ok (.tuple #[.bool false]) w)∨
  ∃q p,es[q]? =some p∧q∉seen∧∃w1,(w1=w∨w1=w.drew)∧(Instr.next (.pointer (some ⟨it,0,none⟩)) false ty).run P w= .ok (.tuple #[.bool true,p.1,p.2]) (DN w1 it (.mapIter (some b) m (seen++[q]).toArray m)):=by
 have hold:∀x∈(Uw es).toList,x.born<m:=by
  intro x hx
  obtain ⟨q,hq⟩:=List.mem_iff_getElem?.1 hx
  rw [Array.getElem?_toList,Py] at hq
  cases hp:es[q]? with
  |none=>rw [hp] at hq;cases hq
  |some p=>
   rw [hp] at hq
   simp only [Option.map_some,Option.some.injEq] at hq
   subst hq
   show q<m
   rcases Nat.lt_or_ge q es.length with h|h
   · omega
   · rw [List.getElem?_eq_none h] at hp;cases hp
 simp only [Instr.next,getObj,Sem.run_bind,Sem.run,hit,hb,Result.andThen,next_test_false seen.toArray (Uw es) m m hold (Nat.le_refl _),Bool.false_eq_true,if_false]
 have hleft:(Uw es).filter (fun e=> !seen.toArray.contains e.born)=leftOf (Uw es) seen.toArray:=rfl
 rw [hleft]
 have hmem:∀x∈(leftOf (Uw es) seen.toArray).toList,x.born<m:=fun x hx=>by
  obtain ⟨q,p,h1,_,rfl⟩:=mem_left.1 hx
  rcases Nat.lt_or_ge q es.length with h|h
  · show q<m;omega
  · rw [List.getElem?_eq_none h] at h1;cases h1
 have hml:∀e,e∈(leftOf (Uw es) seen.toArray).toList↔∃q p,es[q]? =some p∧q∉seen∧e={ key:=p.1,val:=p.2,born:=q }:=fun e=>mem_left
 generalize leftOf (Uw es) seen.toArray=L at hmem hml ⊢
 have e1:L.filter (fun x=>decide (x.born<m))=L:=Array.filter_eq_self.2 (fun x hx=>by simpa using hmem x Gf)
 have e2:L.filter (fun x=>decide (x.born≥m))= #[]:=by
  rw [Array.filter_eq_empty_iff]
  intro x hx
  have:=hmem x Gf
  simp
  omega
 simp only [e1,e2,Array.append_empty]
 by_cases h0:L.size=0
 ·
  left
  have hL:L= #[]:=Array.eq_empty_of_size_eq_zero h0
  refine ⟨fun q hq=> ?_,?_⟩
  ·
   rcases Classical.em (q∈seen) with h|h
   · exact h
   ·
    have:=(hml { key:=(es[q]'(by omega)).1,val:=(es[q]'(by omega)).2,born:=q }).2 ⟨q,es[q]'(by omega),List.getElem?_eq_getElem AA,h,rfl⟩
    rw [hL] at this;simp at this
  ·
   subst hL
   simp [choose,Sem.run,Question.forced]
 ·
  right
  have hne:L.isEmpty=false:=by simp [Array.isEmpty,h0]
  simp only [hne,Bool.false_eq_true,if_false,Array.empty_append,Array.size_map]
  have hch:∃(j:Nat) (w1:World),j<L.size∧(w1=w∨w1=w.drew)∧(choose (Question.mapNext L.size)).run P w= .ok j w1:=by
   by_cases hf:L.size≤1
   · exact ⟨0,w,by omega,.inl rfl,by simp [choose,Sem.run,Question.forced,hf]⟩
   ·
    exact ⟨_,w.drew,Nat.mod_lt _ AA,.inr rfl,by
     simp only [choose,Sem.run,Question.forced,decide_eq_true_eq,hf,if_false,Question.cut]
     rfl⟩
  obtain ⟨j,w1,hj,hal,hrun⟩:=hch
  obtain ⟨q,p,hq1,Wh,oX⟩:=(hml L[j]).1 AO
  refine ⟨q,p,hq1,Wh,w1,hal,?_⟩
  have hw1:w1.heap=w.heap:=by rcases hal with rfl|rfl<;>rfl
  have JL:∀(o':Obj),(setObj it o').run P w1= .ok () (DN w1 it o'):=fun o'=>by
   have ACm:w1.heap[it]? =some (.mapIter (some b) m seen.toArray m):=by rw [hw1];exact hit
   simp only [setObj,Sem.run,ACm]
   rfl
  simp only [hrun,Array.getElem?_map,Array.getElem?_eq_getElem hj,Option.map_some,Sem.run_bind,JL,Result.andThen]
  rw [oX]
  simp
omit [DecidableEq κ] in
theorem TO.next {d i j it b:Nat} {x:Operand} {es:List (κ×Int)} {seen:List Nat} (hg:o.guard=none) (hd:o.dst=some d) (hn:d<n) (ho:o.op= .next x false) (hx:VL E x (ptr it 0)) (hi:rs[i]? =some (Np it b es.length seen)) (hj:rs[j]? =some (uH enc b es))
  (k1:(∀q,q<es.length→q∈seen)→TO P n ops r ((d,F8 [bool false])::E) (Hp M0 w0 S rs) Q)
  (k2:∀q p,es[q]? =some p→q∉seen→TO P n ops r ((d,F8 [bool true,is (enc p.1),int p.2])::E) (Hp M0 w0 S (rs.set i (Np it b es.length (seen++[q])))) Q):TO P n ops (o::r) E (Hp M0 w0 S rs) Q:=
 TO.bI hg fun K M w a hsz hdf he hI hK=>by
  have h1:a.eval x= .pointer (some ⟨it,0,none⟩):=hx.ev (o:=o) (CF he) Ap
  obtain ⟨⟨hMi,hit⟩,hbi⟩:=At.hold hI _ (List.mem_of_getElem? hi)
  obtain ⟨_,hh⟩:=(At.hold hI _ (List.mem_of_getElem? hj)).1
  have hlt:=(hbi it rfl).1
  rcases TY (P:=P) o.type (es:=Pz enc es) (by simp [Pz]) hit hh with ⟨h2,h3⟩|⟨q,p,h2,h3,w1,h4,h5⟩
  ·
   refine TO.val (v:= .tuple #[.bool false]) (w':=w) ?_ ?_
   · simp [execOp,ho,h1,h3]
   ·
    refine hK _ _ _ _ (k1 h2) ⟨M,by rw [Bp];exact hsz,by rw [put_defers];exact hdf,?_,hI⟩
    intro s p hp
    simp only [List.lookup] at hp
    by_cases hs:s=d
    · subst hs;simp at hp;subst hp;rw [hd,Bk Gd];exact ⟨_,rfl,rfl,trivial⟩
    ·
     rw [show (s==d)=false by simpa using hs] at hp
     rw [hd,BN hs];exact he s p hp
  ·
   have bR:∃p',es[q]? =some p'∧p=(enc p'.1,.int .i64 p'.2):=by
    simp only [Pz,List.getElem?_map] at h2
    cases h:es[q]? with
    |none=>rw [h] at h2;cases h2
    |some p'=>rw [h] at h2;simp at h2;exact ⟨p',rfl,h2.symm⟩
   obtain ⟨p',hp',rfl⟩:=bR
   refine TO.val (v:= .tuple #[.bool true,enc p'.1,.int .i64 p'.2]) (w':=DN w1 it (.mapIter (some b) es.length (seen++[q]).toArray es.length)) ?_ ?_
   · simp [execOp,ho,h1,h5]
   ·
    have uI:Below w.heap.size w w1:=by
     rcases h4 with rfl|rfl
     · exact Below.refl _ _
     · exact (Below.refl _ _).drew
    have hI1:=(Hp M0 w0 S rs).st _ _ _ uI hI
    obtain ⟨h6,h7⟩:=At.ACl (obj:= .mapIter (some b) es.length (seen++[q]).toArray es.length) (r':=Np it b es.length (seen++[q])) hI1 hi rfl rfl rfl rfl hMi ⟨hMi,oW (Nat.lt_of_lt_of_le hlt uI.size)⟩
    refine hK _ _ _ _ (k2 q p' hp' h3) ⟨M,by rw [Bp];exact hsz,by rw [put_defers];exact hdf,?_,h6⟩
    intro s p hp
    simp only [List.lookup] at hp
    by_cases hs:s=d
    · subst hs;simp at hp;subst hp;rw [hd,Bk Gd];exact ⟨_,rfl,rfl,rfl,rfl,trivial⟩
    ·
     rw [show (s==d)=false by simpa using hs] at hp
     rw [hd,BN hs]
     exact p.st _ _ _ _ _ ((Ext.below uI).trans h7) (he s p hp)
omit [DecidableEq κ] in
theorem TO.entry {d i j it b q:Nat} {x:Operand} {es:List (κ×Int)} {seen:List Nat} {p:κ×Int} (hg:o.guard=none) (hd:o.dst=some d) (hn:d<n) (ho:o.op= .entry x) (hx:VL E x (ptr it 0)) (hi:rs[i]? =some (Np it b es.length (seen++[q]))) (hj:rs[j]? =some (uH enc b es)) (hq:es[q]? =some p)
  (k:TO P n ops r ((d,F8 [is (enc p.1),int p.2])::E) (Hp M0 w0 S rs) Q):TO P n ops (o::r) E (Hp M0 w0 S rs) Q:=
 TO.bI hg fun K M w a hsz hdf he hI hK=>by
  have h1:a.eval x= .pointer (some ⟨it,0,none⟩):=hx.ev (o:=o) (CF he) Ap
  obtain ⟨⟨_,hit⟩,_⟩:=At.hold hI _ (List.mem_of_getElem? hi)
  obtain ⟨_,hh⟩:=(At.hold hI _ (List.mem_of_getElem? hj)).1
  have hat:(Uw (Pz enc es))[q]? =some { key:=enc p.1,val:= .int .i64 p.2,born:=q }:=by rw [Py];simp [Pz,hq]
  have hnd:((Uw (Pz enc es)).toList.map (·.born)).Nodup:=by
   have:(Uw (Pz enc es)).toList.map (·.born)=List.range (Pz enc es).length:=by
    apply List.ext_getElem?
    intro k
    rw [List.getElem?_map,Array.getElem?_toList,Py]
    by_cases hk:k<(Pz enc es).length
    · rw [List.getElem?_range hk,List.getElem?_eq_getElem hk];rfl
    · rw [List.getElem?_eq_none (Nat.le_of_not_lt hk),List.getElem?_eq_none (by simp at hk ⊢;omega)];rfl
   rw [this];exact List.nodup_range
  have hfind:(Uw (Pz enc es)).find? (fun e=>e.born==q)=some { key:=enc p.1,val:= .int .i64 p.2,born:=q }:=by
   rw [←Array.find?_toList]
   exact find_born { key:=enc p.1,val:= .int .i64 p.2,born:=q } _ hnd (List.mem_iff_getElem?.2 ⟨q,by rw [Array.getElem?_toList];exact hat⟩)
  refine TO.val (v:= .tuple #[enc p.1,.int .i64 p.2]) (w':=w) ?_ ?_
  ·
   have:(Instr.entry (.pointer (some ⟨it,0,none⟩))).run P w= .ok (.tuple #[enc p.1,.int .i64 p.2]) w:=by
    have hb:(seen++[q]).toArray.back? =some q:=by simp
    simp only [Instr.entry,getObj,Sem.run_bind,Sem.run,hit,hh,Result.andThen,hb,bne_self_eq_false,Bool.false_eq_true,if_false,hfind]
    rfl
   simp [execOp,ho,h1,this]
  ·
   refine hK _ _ _ _ k ⟨M,by rw [Bp];exact hsz,by rw [put_defers];exact hdf,?_,hI⟩
   intro s p hp
   simp only [List.lookup] at hp
   by_cases hs:s=d
   · subst hs;simp at hp;subst hp;rw [hd,Bk Gd];exact ⟨_,rfl,rfl,rfl,trivial⟩
   ·
    rw [show (s==d)=false by simpa using hs] at hp
    rw [hd,BN hs];exact he s p hp
end
section
variable {P:Program} {L:Lg P}
end
section
variable {P:Program} {L:Lg P} {n:Fm} {fz:Nat} {E:Env} {M0:Av} {w0:World} {S:Nat→Prop} {rs:List An} {o:Oper}
theorem OB (w:World) (A:Option Addr) (t ty e:TypeId) (i:TypeInfo) (z:Value) (ht:P.underlying t=some (.slice e)) (hi:P.info? e=some i) (hz:i.zero=some z)
  (a:Addr) (n c:Nat) (news:List Value) (hl:news.length=n*i.size) (hnews:∀j v,news[j]? =some v→w.cell? (a.add j)=some v)
  (h0:0<n) (h63:(n:Int)≤9223372036854775807) (h48:n*i.bytes≤281474976710656):
  (Builtin.append_ #[t, t] ty #[.slice A 0 0, .slice (some a) n c]).run P w =
   .ok (.slice (some ⟨w.heap.size,0,none⟩) n (grownCap w n 0 e)) (w.drew.alloc (.cells (news.toArray++Builtin.zeroCells z.cells (grownCap w n 0 e-n)) e)):=by
 cases A with
 |none=>exact run_append_nil (w:=w) t ty e i z ht hi hz a n c news hl hnews h0 h63 h48
 |some b=>
  have:=run_append_grow (w:=w) t ty e i z ht hi hz b 0 0 [] AO AO a n c news hl hnews AA (by simpa using h63) (by rw [Nat.zero_add,nextslicecap_zero h0];exact h48)
  simpa using this
theorem Ux {M:Av} {w:World} {t ty e:TypeId} {sz bytes:Nat} {zs:List Value} {rows:List (List Pr)} {u:Value} {j:Nat} (A:Option Addr) (ht:P.underlying t=some (.slice e)) (hz:Au P e=some sz) (hby:Bq P e=some bytes) (Dr:BO P e=some zs) (hzl:zs.length=sz) (hone:zs.all (·.oneCell')=true) (hsz:0<sz)
  (h:At M0 w0 S rs M w) (hj:rs[j]? =some Bb) (hu:(slice sz rows).h M w u) (hpos:0<rows.length) (F7:rows.length≤maxLen) (hfit:rows.length*bytes≤140737488355328):
  ∃v' w' M',(Builtin.append_ #[t,t] ty #[.slice A 0 0,u]).run P w= .ok v' w'∧(lens rows.length).h M' w' v'∧Ext M w M' w'∧At M0 w0 S (rs.set j (DE e sz rows v')) M' w':=by
 unfold Au at hz
 unfold Bq at hby
 unfold BO at Dr
 cases hi:P.info? e with
 |none=>rw [hi] at hz;cases hz
 |some i=>
  rw [hi] at hz hby Dr
  simp only [Option.map_some,Option.some.injEq,Option.map_eq_some_iff] at hz hby Dr
  obtain ⟨z,WC,Dr⟩:=Dr
  have bK:z.cells.size=sz:=by rw [←hzl,←Dr];simp
  obtain ⟨A',c',rfl,hmc,Wo,mR,Gl⟩:=hu
  have Q5:(slice sz rows).h M w (.slice A' rows.length c'):=⟨A',c',rfl,hmc,Wo,mR,Gl⟩
  obtain ⟨RY,rfl⟩:∃RY,A'=some RY:=by
   obtain ⟨_,b,hb,_⟩:=Gl 0 _ (List.getElem?_eq_getElem hpos)
   exact ⟨b,hb⟩
  obtain ⟨news,hfl,hcell⟩:=Fb hsz Q5
  have hrun:=OB (P:=P) w A t ty e i z ht hi WC RY rows.length c' news (by rw [hz];exact hfl.1) (fun k u hk=>(hcell k u hk).1) hpos Sq (by rw [hby];omega)
  generalize hcap:grownCap w rows.length 0 e=cap at hrun
  have hge:rows.length≤cap:=by rw [←hcap];exact grownCap_ge _ _ _ _
  have hle:cap≤maxLen:=by rw [←hcap];exact grownCap_le_maxLen _ _ _ _ F7
  generalize Q8:Builtin.zeroCells z.cells (cap-rows.length)=zc at hrun
  have hzs:zc.size=(cap-rows.length)*sz:=by rw [←Q8,size_zeroCells,bK]
  have hzo:∀c∈zc.toList,c.oneCell'=true:=by rw [←Q8];exact Fp Dr hone
  have hb:Below w.heap.size w (w.drew.alloc (.cells (news.toArray++zc) e)):=((Below.refl _ _).drew).alloc (Nat.le_refl _) _
  have h2:=Ext.below (M:=M) hb
  have EL:Ext M w (fun b o=>M b o∨b=w.heap.size) (w.drew.alloc (.cells (news.toArray++zc) e)):=by
   refine ⟨h2.size,fun a v hc hm=>⟨fun hx=> ?_,(h2.keep a v hc hm).2⟩,fun b o ho hp hm=>⟨fun hx=> ?_,(h2.obj b o ho hp hm).2⟩⟩
   ·
    rcases hx with hx|hx
    · exact B8
    · exact Eh
   ·
    rcases hx with hx|hx
    · exact B8
    · exact Ej
  have hs1:(w.drew.alloc (.cells (news.toArray++zc) e)).heap.size=w.heap.size+1:=by simp
  refine ⟨_,_,fun b o=>M b o∨b=w.heap.size,hrun,⟨_,_,rfl⟩,EL,?_⟩
  refine h.replace hj EL hb.os hb.tape hb.output (fun k hk _=>hb.block k hk) rfl (fun b o hm _=> .inl hm) (fun b o hx=> ?_) ?_ rfl (fun b hbk=> ?_)
  ·
   rcases hx with hx|hx
   · exact Lq
   · omega
  ·
   refine ⟨w.heap.size,cap,zc.toList,rfl,hge,hle,by simpa using hzs,fun o=> .inr rfl,news++zc.toList,?_,?_,?_⟩
   ·
    have hh:(w.drew.alloc (.cells (news.toArray++zc) e)).heap[w.heap.size]? =some (.cells (news.toArray++zc) e (0,0)):=heap_alloc_new w.drew _
    rw [hh];simp
   · exact ((hfl.st EL).hl hsz).app (Kh _ _ _)
   ·
    intro c hc
    rcases List.mem_append.1 hc with hc|hc
    · exact hfl.2.1 c hc
    · exact hzo c hc
  ·
   have ET:some w.heap.size=some b:=hbk
   injection ET with e1
   subst e1
   exact ⟨by rw [hs1];omega,.inr (Nat.le_refl _)⟩
theorem IW {t e:TypeId} {x y:Operand} {sz':Nat} {sz bytes d:Nat} {zs:List Value} {rows:List (List Pr)} {j:Nat} (hg:o.guard=none) (hd:o.dst=some d) (hn:d<n) (ho:o.op= .call { callee:= .builtin .append,args:= #[x,y],argTypes:= #[t,t] })
  (ht:P.underlying t=some (.slice e)) (hz:Au P e=some sz) (hby:Bq P e=some bytes) (Dr:BO P e=some zs) (hzl:zs.length=sz) (hone:zs.all (·.oneCell')=true) (hsz:0<sz)
  (hx:VL E x (full sz' [])) (hy:VL E y (slice sz rows)) (hpos:0<rows.length) (F7:rows.length≤maxLen) (hfit:rows.length*bytes≤140737488355328):Di P M0 w0 S n j (SR.c Bb) ⟨d,DE e sz rows⟩ o E (lens rows.length):=by
 refine ⟨hg,fun M w a rs Q4 he hI hj=> ?_⟩
 have h2:=hy.ev he Cn
 obtain ⟨_,A,h1⟩:=hx.ev he Cn
 simp only [List.length_nil] at h1
 obtain ⟨v',w',M',hrun,h3,h4,h5⟩:=Ux A (ty:=o.type) ht hz hby Dr hzl hone hsz hI hj h2 hpos F7 hfit
 have Dl:(execOp a.eval o).run P w= .ok (.value v') w':=by simp [execOp,ho,resolve,invoke,builtin,h1,hrun]
 rw [Dl]
 refine ⟨M',h3,h4,?_⟩
 have:(SR.at_ (a.put o.dst v') ⟨d,DE e sz rows⟩)=DE e sz rows v':=by unfold SR.at_ Slot.val;dsimp only;rw [hd,Bk ID]
 rw [this];exact h5
theorem IX {I:CS} {t e:TypeId} {x:Operand} {A:Option Addr} {m cap:Nat} (ho:o.op= .call { callee:= .builtin .len,args:= #[x],argTypes:= #[t] }) (ht:P.underlying t=some (.slice e)) (hx:VL E x (is (.slice A m cap))):Ad P I o E (int m):=
 Ad.same fun M w a he _=>by
  have h1:a.eval x=_:=hx.ev he Cn
  exact ⟨.int .i64 m,by simp [execOp,ho,resolve,invoke,builtin,Builtin.len_,h1,run_underlying ht,goInt],rfl⟩
theorem Nq {I:CS} {t e:TypeId} {x y:Operand} {k:IntKind} {h:Int} {sz b m cap:Nat} (ho:o.op= .slice t x none (some y) none) (ht:P.underlying t=some (.slice e)) (hz:Au P e=some sz) (hx:VL E x (is (.slice (some ⟨b,0,none⟩) m cap))) (hy:VL E y (is (.int k h))) (h0:0≤h) (hl:h≤m) (hc:m≤cap) (h1m:0<cap):
  Ad P I o E (is (.slice (some ⟨b,0,none⟩) h.toNat cap)):=
 Ad.same fun M w a he _=>by
  have h1:a.eval x=_:=hx.ev he Ap
  have h3:a.eval y=_:=hy.ev he Ap
  have hb:h≤(cap:Int):=by omega
  refine ⟨_,?_,rfl⟩
  simp [execOp,ho,h1,h3,Instr.sliceAt,Instr.slice,run_underlying ht,Instr.sliceBounds,Instr.sliceBound,asIntOf,h0,hb,CA hz]
  intro _;rfl
theorem RB {I:CS} {t e:TypeId} {x y:Operand} {k:IntKind} {l:Int} {sz b m cap:Nat} (ho:o.op= .slice t x (some y) none none) (ht:P.underlying t=some (.slice e)) (hz:Au P e=some sz) (hx:VL E x (is (.slice (some ⟨b,0,none⟩) m cap))) (hy:VL E y (is (.int k l))) (h0:0≤l) (hl:l<m) (hc:m≤cap):
  Ad P I o E (is (.slice (some ⟨b,l.toNat*sz,none⟩) (m-l.toNat) (cap-l.toNat))):=
 Ad.same fun M w a he _=>by
  have h1:a.eval x=_:=hx.ev he Ap
  have h3:a.eval y=_:=hy.ev he Ap
  have hb:l≤(m:Int):=by omega
  have hne:¬cap=l.toNat:=by omega
  refine ⟨_,?_,rfl⟩
  simp [execOp,ho,h1,h3,Instr.sliceAt,Instr.slice,run_underlying ht,Instr.sliceBounds,Instr.sliceBound,asIntOf,h0,hb,CA hz,hne,Ep]
theorem oY {M:Av} {w:World} {zs:List Value} {z:Array Value} {k:Nat} (hz:z.toList=zs) (h0:0<zs.length):HL M w (List.replicate k (zs.map is)).flatten (Builtin.zeroCells z k).toList:=by
 have hlr:∀r∈List.replicate k (zs.map is),r.length=zs.length:=fun r hr=>by rw [List.eq_of_mem_replicate hr,List.length_map]
 have hfl:=CR hlr
 rw [List.length_replicate] at hfl
 have hzs:z.size=zs.length:=by rw [←hz];simp
 refine Ri (by rw [Array.length_toList,size_zeroCells,hfl,hzs]) fun i p hi=> ?_
 have FU:i<k*zs.length:=by rw [←hfl];rcases Nat.lt_or_ge i (List.replicate k (zs.map is)).flatten.length with h|h;exact h;rw [List.getElem?_eq_none h] at hi;cases hi
 have hq:i/zs.length<k:=Nat.div_lt_of_lt_mul (by rw [Nat.mul_comm];exact FU)
 have hm:i % zs.length<zs.length:=Nat.mod_lt _ h0
 have he:i/zs.length*zs.length+i % zs.length=i:=by rw [Nat.mul_comm];exact Nat.div_add_mod i _
 rw [←he,GW hlr (by rw [List.getElem?_replicate,if_pos hq]) hm,List.getElem?_map,List.getElem?_eq_getElem hm] at hi
 simp only [Option.map_some,Option.some.injEq] at hi
 subst hi
 refine ⟨zs[i % zs.length],?_,rfl⟩
 have hzl:i<k*z.size:=by rw [hzs];exact FU
 simp only [Builtin.zeroCells,Array.toList_map,Array.toList_range,List.getElem?_map]
 rw [List.getElem?_range hzl]
 subst hz
 simp only [Option.map_some,Option.some.injEq]
 have hm':i % z.size<z.size:=by rw [hzs];exact hm
 rw [getElem!_pos z _ hm',←Array.getElem_toList]
 congr 1
theorem gU {t e:TypeId} {x:Operand} {j:Nat} {new:Bool} {b off m cap sz:Nat} {zs:List Value} {T:TypeId} {ps ps':List Pr} (hg:o.guard=none) (ho:o.op= .call { callee:= .builtin .clear,args:= #[x],argTypes:= #[t] })
  (ht:P.underlying t=some (.slice e)) (hz:Au P e=some sz) (Dr:BO P e=some zs) (hzl:zs.length=sz) (hone:zs.all (·.oneCell')=true) (hsz:0<sz) (hx:VL E x (is (.slice (some ⟨b,off,none⟩) m cap))) (hm:0<m)
  (hl:off+m*sz≤ps.length) (hps:ps.take off++(List.replicate m (zs.map is)).flatten++ps.drop (off+m*sz)=ps'):Di P M0 w0 S n j (SR.c (AE new b T ps)) (SR.c (AE new b T ps')) o E any:=by
 refine ⟨hg,fun M w a rs Q4 he hI hj=> ?_⟩
 have h1:a.eval x=_:=hx.ev he Cn
 unfold BO at Dr
 cases hi:P.info? e with
 |none=>rw [hi] at Dr;cases Dr
 |some i=>
  rw [hi] at Dr
  simp only [Option.map_eq_some_iff] at Dr
  obtain ⟨z,WC,Dr⟩:=Dr
  have bK:z.cells.size=sz:=by rw [←hzl,←Dr];simp
  obtain ⟨⟨_,cs,h4,h5,h6⟩,_⟩:=hI.hold _ (List.mem_of_getElem? hj)
  have h5l:=h5.length
  have hzs:(Builtin.zeroCells z.cells m).size=m*sz:=by rw [size_zeroCells,bK]
  have h3:∀c∈(Builtin.zeroCells z.cells m).toList,c.oneCell'=true:=Fp Dr hone
  have hrun:(storeCells ⟨b,off,none⟩ (Builtin.zeroCells z.cells m).toList 0).run P w= .ok () (w.setRow b (cs.take off++(Builtin.zeroCells z.cells m).toList++cs.drop (off+m*sz)).toArray):=by
   have:=run_storeCells_at (P:=P) b off T (Builtin.zeroCells z.cells m).toList 0 cs.toArray w h4 (by simp [hzs];omega) h3
   simpa [hzs] using this
  obtain ⟨m',rfl⟩:∃m',m=m'+1:=⟨m-1,by omega⟩
  have Dl:(execOp a.eval o).run P w= .ok (.value (.tuple #[])) (w.setRow b (cs.take off++(Builtin.zeroCells z.cells (m'+1)).toList++cs.drop (off+(m'+1)*sz)).toArray):=by
   simp [execOp,ho,h1,resolve,invoke,builtin,Builtin.clear_,run_underlying ht,zeroValue,typeInfo,hi,WC,hrun]
  rw [Dl]
  obtain ⟨h7, h8⟩ := At.write (qs := ps') (cs := cs.take off ++ (Builtin.zeroCells z.cells (m' + 1)).toList ++ cs.drop (off + (m' + 1) * sz)) hI hj (by rw [← hps]; exact (((h5.take off).app (oY Dr AA))).app (h5.drop (off + (m' + 1) * sz)))
   (fun c hc=>by
    simp only [List.mem_append] at hc
    rcases hc with (hc|hc)|hc
    · exact Lj
    · exact h3 c hc
    · exact h6 c (List.mem_of_mem_drop hc))
  exact ⟨M,trivial,h8,h7⟩
theorem gV {β:Type} {f:β→List Pr} {l:List β} {qs:List Pr} {sz:Nat} (hf:∀x,(f x).length=sz) {i:Nat} {x:β} (h:l[i]? =some x):((((l.map f).flatten++qs).drop (i*sz)).take sz)=f x:=by
 have hl:∀r∈l.map f,r.length=sz:=fun r hr=>by obtain ⟨y,_,rfl⟩:=List.mem_map.1 hr;exact hf y
 have hi:i<l.length:=by rcases Nat.lt_or_ge i l.length with h'|h';exact h';rw [List.getElem?_eq_none h'] at h;cases h
 have hfl:=CR hl
 rw [List.length_map] at hfl
 have hle:(i+1)*sz≤l.length*sz:=Nat.mul_le_mul_right sz hi
 rw [Nat.add_mul,Nat.one_mul] at hle
 apply List.ext_getElem?
 intro k
 rw [List.getElem?_take]
 split
 ·
  rename_i hk
  rw [List.getElem?_drop,List.getElem?_append_left (by rw [hfl];omega),GW hl (by rw [List.getElem?_map,h];rfl) hk]
 ·
  rename_i hk
  rw [List.getElem?_eq_none (by rw [hf];omega)]
theorem M6 {β:Type} {f:β→List Pr} {sz:Nat} (hf:∀x,(f x).length=sz):∀{l:List β} {qs:List Pr} {i:Nat} {x:β},i<l.length→((l.map f).flatten++qs).take (i*sz)++f x++((l.map f).flatten++qs).drop (i*sz+sz)=((l.set i x).map f).flatten++qs
 |[],_,_,_,h=>by simp at h
 |a::l,qs,0,x,_=>by
  simp only [List.map_cons,List.flatten_cons,Nat.zero_mul,List.take_zero,List.nil_append,Nat.zero_add,List.set_cons_zero]
  rw [←hf a,List.append_assoc,List.drop_left,List.append_assoc]
 |a::l,qs,i+1,x,h=>by
  have ih:=M6 hf (l:=l) (qs:=qs) (i:=i) (x:=x) DM
  simp only [List.map_cons,List.flatten_cons,List.set_cons_succ]
  have e1:(i+1)*sz=(f a).length+i*sz:=by rw [hf a,Nat.add_mul];omega
  rw [List.append_assoc,List.append_assoc,e1,List.take_append,List.take_of_length_le AA,show (f a).length+i*sz-(f a).length=i*sz by omega,show (f a).length+i*sz+sz=(f a).length+(i*sz+sz) by omega,List.drop_append,List.drop_of_length_le AA,show (f a).length+(i*sz+sz)-(f a).length=i*sz+sz by omega,List.nil_append,List.append_assoc (f a) _ qs,←ih]
  simp only [List.append_assoc]
theorem TO.Nn {ops:Array Oper} {r:List Oper} {Q:Exit→Act→World→Prop} {e:TypeId} {sz:Nat} {rows:List (List Pr)} {v:Value} (j:Nat) (hj:rs[j]? =some (DE e sz rows v))
  (k:∀(b cap:Nat) (spare:List Value),v= .slice (some ⟨b,0,none⟩) rows.length cap→rows.length≤cap→cap≤maxLen→spare.length=(cap-rows.length)*sz→TO P n ops r E (Hp M0 w0 S (rs.set j (AE true b e (rows.flatten++spare.map is)))) Q):TO P n ops r E (Hp M0 w0 S rs) Q:=
 fun m hl a w hs=>let ⟨b,cap,spare,h1,h2,h3,h4,h5⟩:=hs.Nn j hj;k b cap spare h1 h2 h3 h4 m hl a w h5
theorem J3 {β:Type} {f:β→List Pr} {l:List β} {qs:List Pr} {sz:Nat} (hf:∀x,(f x).length=sz):((l.map f).flatten++qs).length=l.length*sz+qs.length:=by
 rw [List.length_append,CR (sz:=sz) (fun r hr=>by obtain ⟨y,_,rfl⟩:=List.mem_map.1 hr;exact hf y),List.length_map]
theorem BL {β:Type} {f:β→List Pr} {l:List β} {sz:Nat} (hf:∀x,(f x).length=sz):∀r∈l.map f,r.length=sz:=fun r hr=>by obtain ⟨y,_,rfl⟩:=List.mem_map.1 hr;exact hf y
theorem W4 {β:Type} {f:β→List Pr} {sz:Nat} (hf:∀x,(f x).length=sz) {l:List β} {qs:List Pr} {i:Nat} {x:β} (h:i<l.length):((l.map f).flatten++qs).take (0+((i:Nat):Int).toNat*sz)++f x++((l.map f).flatten++qs).drop (0+((i:Nat):Int).toNat*sz+sz)=((l.set i x).map f).flatten++qs:=by
 rw [Nat.zero_add,Int.toNat_natCast];exact M6 hf h
def Uy {β:Type} (p:β→Bool) (l st:List β) (i j:Nat):Prop:=st.length=l.length∧i<j∧j≤l.length∧st.take i=(l.take j).filter (fun x=> !p x)∧st.drop j=l.drop j
theorem gW {β:Type} {p:β→Bool} {l st:List β} {i j:Nat} {x:β} (h:Uy p l st i j) (hx:l[j]? =some x) (hp:p x=false):Uy p l (st.set i x) (i+1) (j+1):=by
 obtain ⟨h1,h2,h3,h4,h5⟩:=h
 have hj:j<l.length:=by rcases Nat.lt_or_ge j l.length with h'|h';exact h';rw [List.getElem?_eq_none h'] at hx;cases hx
 refine ⟨by rw [List.length_set,h1],by omega,hj,?_,?_⟩
 ·
  rw [List.take_add_one,List.getElem?_set_self AA,List.take_set_of_le (Nat.le_refl _),h4,List.take_add_one,hx,List.filter_append]
  simp [hp]
 · rw [List.drop_set_of_lt AA,←List.drop_drop,←List.drop_drop,h5]
theorem gX {β:Type} {p:β→Bool} {l st:List β} {i j:Nat} {x:β} (h:Uy p l st i j) (hx:l[j]? =some x) (hp:p x=true):Uy p l st i (j+1):=by
 obtain ⟨h1,h2,h3,h4,h5⟩:=h
 have hj:j<l.length:=by rcases Nat.lt_or_ge j l.length with h'|h';exact h';rw [List.getElem?_eq_none h'] at hx;cases hx
 refine ⟨h1,by omega,hj,?_,?_⟩
 · rw [h4,List.take_add_one,hx,List.filter_append];simp [hp]
 · rw [←List.drop_drop,←List.drop_drop,h5]
theorem uJ {β:Type} {p:β→Bool} {l st:List β} {i j:Nat} (h:Uy p l st i j):st[j]? =l[j]? :=by
 have:=congrArg (fun q=>q[0]?) h.2.2.2.2
 simpa using this
theorem oZ {β:Type} {p:β→Bool} {l st:List β} {i:Nat} (h:Uy p l st i l.length):st.take i=l.filter (fun x=> !p x)∧i=(l.filter (fun x=> !p x)).length∧st.length=l.length∧i<l.length:=by
 obtain ⟨h1,h2,h3,h4,h5⟩:=h
 rw [List.take_length] at h4
 exact ⟨h4,by rw [←h4,List.length_take];omega,h1,h2⟩
theorem St.W6 {b cap sz:Nat} {e:TypeId} {rows:List (List Pr)} {qs:List Pr} (j d:Nat) {p:Pr} (hj:rs[j]? =some (AE true b e (rows.flatten++qs))) (hd:E.lookup d=some p) (hp:Pr.le p (is (.slice (some ⟨b,0,none⟩) rows.length cap)))
  (hl:∀r∈rows,r.length=sz) (hc:rows.length≤cap) (hm:cap≤maxLen) (hq:qs.length=(cap-rows.length)*sz)
  {a:Act} {w:World} (h:St n E (Hp M0 w0 S rs) a w):St n ((d,Ae (.slice (some ⟨b,0,none⟩) rows.length cap) (slice sz rows))::E) (Hp M0 w0 S (rs.set j (As e sz (.slice (some ⟨b,0,none⟩) rows.length cap)))) a w:=by
 obtain ⟨M,h1,h2,h3,h4⟩:=h
 obtain ⟨M',h5,h6,h7⟩:=At.frz h4 hj hl hc hm hq
 refine ⟨M',h1,h2,fun s q hs=> ?_,h6⟩
 simp only [List.lookup] at hs
 split at hs
 ·
  rename_i e1
  have:s=d:=by simpa using e1
  subst this
  simp only [Option.some.injEq] at hs
  subst hs
  have h8:=hp _ _ _ (h3 _ _ hd)
  exact ⟨h8,by rw [show a.tmps.getD s undef=_ from h8];exact h7⟩
 · exact q.st _ _ _ _ _ h5 (h3 s q hs)
theorem Tr.W6 {Q:Exit→Act→World→Prop} {c:Code} {b cap sz:Nat} {e:TypeId} (rows:List (List Pr)) {qs:List Pr} (j d:Nat) {p:Pr} (hj:rs[j]? =some (AE true b e (rows.flatten++qs))) (hd:E.lookup d=some p) (hp:Pr.le p (is (.slice (some ⟨b,0,none⟩) rows.length cap)))
  (hl:∀r∈rows,r.length=sz) (hc:rows.length≤cap) (hm:cap≤maxLen) (hq:qs.length=(cap-rows.length)*sz)
  (k:Tr L n ((d,Ae (.slice (some ⟨b,0,none⟩) rows.length cap) (slice sz rows))::E) (Hp M0 w0 S (rs.set j (As e sz (.slice (some ⟨b,0,none⟩) rows.length cap)))) c Q):Tr L n E (Hp M0 w0 S rs) c Q:=
 Tr.conv (fun _ _ hs=>hs.W6 j d hj hd hp hl hc hm hq) k
theorem Fin.W6 {Q:Exit→Act→World→Prop} {x:Exit} {b cap sz:Nat} {e:TypeId} (rows:List (List Pr)) {qs:List Pr} (j d:Nat) {p:Pr} (hj:rs[j]? =some (AE true b e (rows.flatten++qs))) (hd:E.lookup d=some p) (hp:Pr.le p (is (.slice (some ⟨b,0,none⟩) rows.length cap)))
  (hl:∀r∈rows,r.length=sz) (hc:rows.length≤cap) (hm:cap≤maxLen) (hq:qs.length=(cap-rows.length)*sz)
  (k:Fin n ((d,Ae (.slice (some ⟨b,0,none⟩) rows.length cap) (slice sz rows))::E) (Hp M0 w0 S (rs.set j (As e sz (.slice (some ⟨b,0,none⟩) rows.length cap)))) Q x):Fin n E (Hp M0 w0 S rs) Q x:=
 Fin.conv (fun _ _ hs=>hs.W6 j d hj hd hp hl hc hm hq) k
end
section
variable {P:Program} {L:Lg P} {n:Fm} {fz:Nat} {E:Env} {M0:Av} {w0:World} {S:Nat→Prop} {rs:List An} {o:Oper} {g:Func} {M1:Av} {w1:World}
theorem Uz {β:Type} {f:β→List Pr} {l:List β} {qs:List Pr} (hf:∀x,(f x).length=1) {i:Int} {x:β} {p:Pr} (h:l[i.toNat]? =some x) (hp:f x=[p]):((l.map f).flatten++qs)[0+i.toNat*1]? =some p:=by
 have hl:∀r∈l.map f,r.length=1:=BL hf
 have hi:i.toNat<l.length:=by rcases Nat.lt_or_ge i.toNat l.length with h'|h';exact h';rw [List.getElem?_eq_none h'] at h;cases h
 have hfl:=CR hl
 rw [List.length_map] at hfl
 rw [Nat.zero_add,List.getElem?_append_left (by rw [hfl];omega),show i.toNat*1=i.toNat*1+0 by omega,GW hl (by rw [List.getElem?_map,h];rfl) AA,hp];rfl
def FN (T:TypeId) (ps:List Pr) (v:Value):An:=match v with| .pointer (some a)=>AE true a.block T ps|_=>Bb
theorem Gb {d j:Nat} {T:TypeId} {zs:List Value} (hg:o.guard=none) (hd:o.dst=some d) (hn:d<n) (ho:o.op= .alloc T) (hz:BO P T=some zs) (h1':zs.all (·.oneCell')=true):
  Di P M0 w0 S n j (SR.c Bb) ⟨d,FN T (zs.map is)⟩ o E (Cp.ex fun b=>ptr b 0):=by
 refine ⟨hg,fun M w a rs Q4 he hI hj=> ?_⟩
 have h1:∀c∈zs,c.oneCell'=true:=fun c hc=>List.all_eq_true.1 h1' c hc
 obtain ⟨z,G8,S2⟩:=Ud hz w
 have hrun:(execOp a.eval o).run P w= .ok (.value (.pointer (some ⟨w.heap.size,0,none⟩))) (w.alloc (.cells zs.toArray T)):=by simp [execOp,ho,Instr.alloc,G8,newVar,newRow,←S2]
 rw [hrun]
 have hb:Below w.heap.size w (w.alloc (.cells zs.toArray T)):=(Below.refl _ _).alloc (Nat.le_refl _) _
 have h2:=Ext.below (M:=M) hb
 have EL:Ext M w (fun b o=>M b o∨b=w.heap.size) (w.alloc (.cells zs.toArray T)):=by
  refine ⟨h2.size,fun a v hc hm=>⟨fun hx=> ?_,(h2.keep a v hc hm).2⟩,fun b o ho hp hm=>⟨fun hx=> ?_,(h2.obj b o ho hp hm).2⟩⟩
  ·
   rcases hx with hx|hx
   · exact B8
   · exact Eh
  ·
   rcases hx with hx|hx
   · exact B8
   · exact Ej
 have hs1:(w.alloc (.cells zs.toArray T)).heap.size=w.heap.size+1:=by simp
 have hat:(SR.at_ (a.put o.dst (.pointer (some ⟨w.heap.size,0,none⟩))) ⟨d,FN T (zs.map is)⟩)=AE true w.heap.size T (zs.map is):=by unfold SR.at_ Slot.val;dsimp only;rw [hd,Bk ID];rfl
 refine ⟨fun b o=>M b o∨b=w.heap.size,⟨_,rfl⟩,EL,?_⟩
 rw [hat]
 refine hI.replace hj EL hb.os hb.tape hb.output (fun k hk _=>hb.block k hk) rfl (fun b o hm _=> .inl hm) (fun b o hx=> ?_) ?_ rfl (fun b hbk=> ?_)
 ·
  rcases hx with hx|hx
  · have:=hI.bd _ _ hx;omega
  · omega
 · refine ⟨fun o=> .inr rfl,zs,heap_alloc_new w _,Kh _ _ _,h1⟩
 ·
  have ET:some w.heap.size=some b:=hbk
  injection ET with e1
  subst e1
  exact ⟨by rw [hs1];omega,.inr (Nat.le_refl _)⟩
theorem Hs {t:TypeId} {s:Tmp} {y:Operand} {j m:Nat} {T:TypeId} {ps qs:List Pr} (hg:o.guard=none) (hd:o.dst=none) (ho:o.op= .store t (.tmp s) y) (hx:E.lookup s=some (Cp.ex fun b=>ptr b 0)) (hy:VL E y (Co qs))
  (hz:Au P t=some m) (hm:qs.length=m) (hl:ps.length=m):Di P M0 w0 S n j ⟨s,FN T ps⟩ ⟨s,FN T qs⟩ o E any:=by
 refine ⟨hg,fun M w a rs hsz he hI hj=> ?_⟩
 have hxv:VL E (.tmp s) (Cp.ex fun b=>ptr b 0):=⟨_,hx,Pr.le_refl _⟩
 obtain ⟨b,h1'⟩:=hxv.ev he (show (Operand.tmp s)∈o.op.operands.toList by simp [ho,Op.operands])
 have h1:a.eval (.tmp s)= .pointer (some ⟨b,0,none⟩):=h1'
 have h1t:a.tmps.getD s undef= .pointer (some ⟨b,0,none⟩):=h1
 have hj':rs[j]? =some (AE true b T ps):=by
  rw [hj];show some (FN T ps (a.tmps.getD s undef))=_;rw [h1t];rfl
 obtain ⟨h2,h3⟩:=hy.ev he (show y∈o.op.operands.toList by simp [ho,Op.operands])
 obtain ⟨⟨_,cs,h4,h5,h6⟩,_⟩:=hI.hold _ (List.mem_of_getElem? hj')
 have h5l:=h5.length
 have h2l:=h2.length
 have hcells:(a.eval y).cells.size=m:=by rw [←hm,←h2l];simp
 have hrun:(storeCells ⟨b,0,none⟩ (a.eval y).cells.toList 0).run P w= .ok () (w.setRow b (cs.take 0++(a.eval y).cells.toList++cs.drop (0+m)).toArray):=by
  have:=run_storeCells_at (P:=P) b 0 T (a.eval y).cells.toList 0 cs.toArray w h4 B1 h3
  simpa [hcells] using this
 have yh:cs.drop (0+m)=[]:=List.drop_eq_nil_of_le AA
 rw [yh,List.take_zero,List.nil_append,List.append_nil] at hrun
 have Dl:(execOp a.eval o).run P w= .ok .skip (w.setRow b (a.eval y).cells.toList.toArray):=by
  simp only [execOp,ho,h1,Instr.storeAt,Instr.sureAddr,storeVar]
  simp [CA hz,hcells,hrun]
 rw [Dl]
 obtain ⟨h7,h8⟩:=At.write (qs:=qs) (cs:=(a.eval y).cells.toList) hI hj' h2 h3
 refine ⟨M,trivial,h8,?_⟩
 have hat:(SR.at_ (a.put o.dst undef) ⟨s,FN T qs⟩)=AE true b T qs:=by
  rw [hd];show FN T qs (a.tmps.getD s undef)=_;rw [h1t];rfl
 rw [hat];exact h7
theorem Fin.Wu {Q:Exit→Act→World→Prop} {x:Exit} (s j:Nat) {v:Value} {f:Value→An} (g:Nat→An) (hs:E.lookup s=some (Ae v (Cp.ex fun b=>ptr b 0))) (hi:rs[j]? =some (f v)) (hf:∀b,f (.pointer (some ⟨b,0,none⟩))=g b)
  (k:∀b,Fin n ((s,ptr b 0)::E) (Hp M0 w0 S (rs.set j (g b))) Q x):Fin n E (Hp M0 w0 S rs) Q x:=by
 intro a w hst
 obtain ⟨M,h1,h2,he,h4⟩:=hst
 obtain ⟨h5,b,h6⟩:=he s _ hs
 have hv:v= .pointer (some ⟨b,0,none⟩):=by rw [←h5];exact h6
 have hj:rs.set j (g b)=rs:=by
  have hjl:j<rs.length:=by rcases Nat.lt_or_ge j rs.length with h|h;exact h;rw [List.getElem?_eq_none h] at hi;cases hi
  rw [←hf b,←hv]
  rw [List.getElem?_eq_getElem hjl] at hi
  simp at hi
  rw [←hi,List.set_getElem_self]
 refine k b a w ⟨M,h1,h2,?_,by rw [hj];exact h4⟩
 intro t q hq
 simp only [List.lookup] at hq
 by_cases ht:t=s
 · exact J2
 · exact Mj
theorem Ta {β:Type} {f:β→List Pr} {sz:Nat} (hf:∀x,(f x).length=sz) {z:List Pr} (hz:z.length=sz) {l:List β} {qs:List Pr} {i m:Nat} (hm:m=l.length-((i:Nat):Int).toNat) (h:i≤l.length):
  ((l.map f).flatten++qs).take (((i:Nat):Int).toNat*sz)++(List.replicate m z).flatten++((l.map f).flatten++qs).drop (((i:Nat):Int).toNat*sz+m*sz)=((l.take i).map f).flatten++(List.replicate (l.length-i) z).flatten++qs:=by
 rw [Int.toNat_natCast] at hm ⊢;subst hm
 have hl2:∀r∈(l.take i).map f,r.length=sz:=BL hf
 have e1:i*sz+(l.length-i)*sz=((l.map f).flatten).length:=by rw [CR (BL hf),List.length_map,←Nat.add_mul];congr 1;omega
 have e2:(l.map f).flatten=((l.take i).map f).flatten++((l.drop i).map f).flatten:=by rw [←List.flatten_append,←List.map_append,List.take_append_drop]
 have e3:(((l.take i).map f).flatten).length=i*sz:=by rw [CR hl2,List.length_map,List.length_take];congr 1;omega
 rw [e1,List.drop_left]
 congr 2
 rw [e2,List.append_assoc,←e3,List.take_left]
end
section
variable {P:Program} {L:Lg P} {n:Fm} {fz:Nat} {E:Env} {M0:Av} {w0:World} {S:Nat→Prop} {rs:List An} {o:Oper}
def BM (e:TypeId) (sz:Nat) (rows:List (List Pr)) (v:Value):An where
 blk:=match v with| .slice (some a) _ _=>some a.block|_=>none
 new:=true
 h M w:=(rows=[]∧v= .slice none 0 0)∨(DE e sz rows v).h M w
 st M w M' w' he hk h:=h.imp id fun h=>(DE e sz rows v).st M w M' w' he hk h
theorem Tr.IY {Q:Exit→Act→World→Prop} {c:Code} (e:TypeId) (sz:Nat) (k:Tr L n E (Hp M0 w0 S (BM e sz [] (.slice none 0 0)::rs)) c Q):Tr L n E (Hp M0 w0 S rs) c Q:=
 Tr.conv (fun _ _ ⟨M,h1,h2,h3,h4⟩=>⟨M,h1,h2,h3,At.I8 h4 (r:=BM e sz [] (.slice none 0 0)) rfl (Or.inl ⟨rfl,rfl⟩)⟩) k
theorem ZY {M:Av} {w:World} {t ty e:TypeId} {sz bytes:Nat} {zs:List Value} {rows rows':List (List Pr)} {v u:Value} {j:Nat} (ht:P.underlying t=some (.slice e)) (hz:Au P e=some sz) (hby:Bq P e=some bytes) (Dr:BO P e=some zs) (hzl:zs.length=sz) (hone:zs.all (·.oneCell')=true) (hsz:0<sz)
  (h:At M0 w0 S rs M w) (hj:rs[j]? =some (BM e sz rows v)) (hl:∀r∈rows,r.length=sz) (hu:(slice sz rows').h M w u) (hpos:0<rows'.length) (F7:rows.length+rows'.length≤maxLen) (hfit:(rows.length+rows'.length)*bytes≤140737488355328):
  ∃v' w' M',(Builtin.append_ #[t,t] ty #[v,u]).run P w= .ok v' w'∧(lens (rows.length+rows'.length)).h M' w' v'∧Ext M w M' w'∧At M0 w0 S (rs.set j (BM e sz (rows++rows') v')) M' w':=by
 have hjl:j<rs.length:=by rcases Nat.lt_or_ge j rs.length with h|h;exact h;rw [List.getElem?_eq_none h] at hj;cases hj
 rcases (h.hold _ (List.mem_of_getElem? hj)).1 with ⟨rfl,rfl⟩|gY
 ·
  have h1:=h.CD (r':=Bb) hj rfl rfl trivial
  have hj1:(rs.set j Bb)[j]? =some Bb:=List.getElem?_set_self hjl
  obtain ⟨v',w',M',hrun,h2,h3,h4⟩:=oJ (ty:=ty) ht hz hby Dr hzl hone hsz h1 hj1 hu hpos OR OQ
  rw [List.set_set] at h4
  have h5:=h4.CD (r':=BM e sz ([]++rows') v') (List.getElem?_set_self hjl) rfl rfl (.inr (h4.hold _ (List.mem_of_getElem? (List.getElem?_set_self hjl))).1)
  rw [List.set_set] at h5
  exact ⟨v',w',M',hrun,by simpa using h2,h3,h5⟩
 ·
  obtain ⟨b,cap,spare,rfl,hnc,hcm,hsp,bS⟩:=gY
  have hC:=h.CD (r':=AE true b e (rows.flatten++spare.map is)) hj rfl rfl bS
  have hjC:(rs.set j (AE true b e (rows.flatten++spare.map is)))[j]? =some (AE true b e (rows.flatten++spare.map is)):=List.getElem?_set_self hjl
  obtain ⟨⟨hMb,cs,sA,hcs,gZ⟩,hbb⟩:=hC.hold _ (List.mem_of_getElem? hjC)
  have hfl:=CR hl
  have fY:=hcs.length
  rw [List.length_append,hfl,List.length_map,hsp,←Nat.add_mul,show rows.length+(cap-rows.length)=cap by omega] at fY
  unfold Au at hz
  unfold Bq at hby
  unfold BO at Dr
  cases hi:P.info? e with
  |none=>rw [hi] at hz;cases hz
  |some i=>
   rw [hi] at hz hby Dr
   simp only [Option.map_some,Option.some.injEq,Option.map_eq_some_iff] at hz hby Dr
   obtain ⟨z,WC,Dr⟩:=Dr
   have bK:z.cells.size=sz:=by rw [←hzl,←Dr];simp
   obtain ⟨A',c',rfl,hmc,Wo,mR,Gl⟩:=hu
   have Q5:(slice sz rows').h M w (.slice A' rows'.length c'):=⟨A',c',rfl,hmc,Wo,mR,Gl⟩
   obtain ⟨RY,rfl⟩:∃RY,A'=some RY:=by
    obtain ⟨_,b,hb,_⟩:=Gl 0 _ (List.getElem?_eq_getElem hpos)
    exact ⟨b,hb⟩
   obtain ⟨news,Rj,hcell⟩:=Fb hsz Q5
   have eG:=Rj.1
   have hnews:=Rj.hl hsz
   have hT:HL M w rows.flatten (cs.take (rows.length*sz)):=by
    have:=hcs.take (rows.length*sz)
    rwa [←hfl,List.take_left,hfl] at this
   have hne:(.slice (some ⟨b,0,none⟩) (rows++rows').length cap:Value)= .slice (some ⟨b,0,none⟩) (rows.length+rows'.length) cap:=by rw [List.length_append]
   by_cases hroom:rows.length+rows'.length≤cap
   ·
    have hle:(rows.length+rows'.length)*sz≤cap*sz:=Nat.mul_le_mul_right sz hroom
    rw [Nat.add_mul] at hle
    have hrun:=run_append_room (P:=P) (w:=w) t ty e i ht hi b rows.length cap cs.toArray sA RY rows'.length c' news (by rw [hz];exact eG) (fun k u hk=>(hcell k u hk).1) Rj.2.1 hroom (by rw [hz,eG];simp;omega)
    rw [hz,eG] at hrun
    have hD:HL M w ((spare.drop (rows'.length*sz)).map is) (cs.drop (rows.length*sz+rows'.length*sz)):=by
     have:=hcs.drop (rows.length*sz+rows'.length*sz)
     have e1:(rows.flatten++spare.map is).drop (rows.length*sz+rows'.length*sz)=(spare.drop (rows'.length*sz)).map is:=by rw [←hfl,←List.drop_drop,List.drop_left,List.map_drop]
     rwa [e1] at this
    obtain ⟨hW,hX⟩:=At.write (qs:=rows.flatten++rows'.flatten++(spare.drop (rows'.length*sz)).map is) (cs:=cs.take (rows.length*sz)++news++cs.drop (rows.length*sz+rows'.length*sz)) hC hjC ((hT.app hnews).app hD) (fun c hc=>by
     simp only [List.mem_append] at hc
     rcases hc with (hc|hc)|hc
     · exact gZ c (List.mem_of_mem_take hc)
     · exact Rj.2.1 c hc
     · exact gZ c (List.mem_of_mem_drop hc))
    rw [List.set_set] at hW
    refine ⟨_,_,M,hrun,⟨_,_,rfl⟩,hX,?_⟩
    have hW2 := hW.CD (r' := BM e sz (rows ++ rows') (.slice (some ⟨b, 0, none⟩) (rows.length + rows'.length) cap)) (List.getElem?_set_self hjl) rfl rfl (.inr ⟨b, cap, spare.drop (rows'.length * sz), hne.symm, by rw [List.length_append]; exact hroom, hcm, by
     rw [List.length_drop,hsp,List.length_append,←Nat.sub_mul];congr 1;omega,by
     rw [List.flatten_append];exact (hW.hold _ (List.mem_of_getElem? (List.getElem?_set_self hjl))).1⟩)
    rw [List.set_set] at hW2
    exact hW2
   ·
    have hg:cap<rows.length+rows'.length:=by omega
    have holds:∀k u,(cs.take (rows.length*sz))[k]? =some u→w.cell? ((⟨b,0,none⟩:Addr).add k)=some u:=by
     intro k u hk
     have hk2:cs[k]? =some u:=by
      rw [List.getElem?_take] at hk
      split at hk
      · exact hk
      · cases hk
     rw [Ep]
     simp [World.cell?,sA,hk2]
    have hto:(cs.take (rows.length*sz)).length=rows.length*sz:=by rw [List.length_take,fY];exact Nat.min_eq_left (Nat.mul_le_mul_right sz hnc)
    have hrun:=run_append_grow (P:=P) (w:=w) t ty e i z ht hi WC ⟨b,0,none⟩ rows.length cap (cs.take (rows.length*sz)) (by rw [hz];exact hto) holds RY rows'.length c' news (by rw [hz];exact eG) (fun k u hk=>(hcell k u hk).1) hg Sq (by rw [hby];exact growslice_fits hg hfit)
    generalize hcap:grownCap w (rows.length+rows'.length) cap e=cap' at hrun
    have hge:rows.length+rows'.length≤cap':=by rw [←hcap];exact grownCap_ge _ _ _ _
    have hle:cap'≤maxLen:=by rw [←hcap];exact grownCap_le_maxLen _ _ _ _ F7
    generalize Q8:Builtin.zeroCells z.cells (cap'-(rows.length+rows'.length))=zc at hrun
    have hzs:zc.size=(cap'-(rows.length+rows'.length))*sz:=by rw [←Q8,size_zeroCells,bK]
    have hzo:∀c∈zc.toList,c.oneCell'=true:=by rw [←Q8];exact Fp Dr hone
    generalize uK:((cs.take (rows.length*sz)).toArray++news.toArray++zc)=arr at hrun
    have Hf:arr.toList=cs.take (rows.length*sz)++news++zc.toList:=by rw [←uK];simp
    have hb:Below w.heap.size w (w.drew.alloc (.cells arr e)):=((Below.refl _ _).drew).alloc (Nat.le_refl _) _
    have h2:=Ext.below (M:=M) hb
    have EL:Ext M w (fun b o=>M b o∨b=w.heap.size) (w.drew.alloc (.cells arr e)):=by
     refine ⟨h2.size,fun a v hc hm=>⟨fun hx=> ?_,(h2.keep a v hc hm).2⟩,fun b o ho hp hm=>⟨fun hx=> ?_,(h2.obj b o ho hp hm).2⟩⟩
     ·
      rcases hx with hx|hx
      · exact B8
      · exact Eh
     ·
      rcases hx with hx|hx
      · exact B8
      · exact Ej
    have hs1:(w.drew.alloc (.cells arr e)).heap.size=w.heap.size+1:=by simp
    refine ⟨_,_,fun b o=>M b o∨b=w.heap.size,hrun,⟨_,_,rfl⟩,EL,?_⟩
    refine h.replace hj EL hb.os hb.tape hb.output (fun k hk _=>hb.block k hk) rfl (fun b o hm _=> .inl hm) (fun b o hx=> ?_) ?_ rfl (fun b hbk=> ?_)
    ·
     rcases hx with hx|hx
     · exact Lq
     · omega
    ·
     refine .inr ⟨w.heap.size,cap',zc.toList,by rw [List.length_append],by rw [List.length_append];exact hge,hle,by rw [List.length_append];simpa using hzs,fun o=> .inr rfl,arr.toList,?_,?_,?_⟩
     ·
      have hh:(w.drew.alloc (.cells arr e)).heap[w.heap.size]? =some (.cells arr e (0,0)):=heap_alloc_new w.drew _
      rw [hh]
     · rw [Hf,List.flatten_append];exact ((hT.st EL).app ((Rj.st EL).hl hsz)).app (Kh _ _ _)
     ·
      intro c hc
      rw [Hf] at hc
      simp only [List.mem_append] at hc
      rcases hc with (hc|hc)|hc
      · exact gZ c (List.mem_of_mem_take hc)
      · exact Rj.2.1 c hc
      · exact hzo c hc
    ·
     have ET:some w.heap.size=some b:=hbk
     injection ET with e1
     subst e1
     exact ⟨by rw [hs1];omega,.inr (Nat.le_refl _)⟩
theorem Fg {t e:TypeId} {x y:Operand} {sz bytes d:Nat} {zs:List Value} {rows rows':List (List Pr)} {v:Value} {p:Pr} {j:Nat} (hg:o.guard=none) (hd:o.dst=some d) (hn:d<n) (ho:o.op= .call { callee:= .builtin .append,args:= #[x,y],argTypes:= #[t,t] })
  (ht:P.underlying t=some (.slice e)) (hz:Au P e=some sz) (hby:Bq P e=some bytes) (Dr:BO P e=some zs) (hzl:zs.length=sz) (hone:zs.all (·.oneCell')=true) (hsz:0<sz)
  (hx:VL E x (Ae v p)) (hy:VL E y (slice sz rows')) (hl:∀r∈rows,r.length=sz) (hpos:0<rows'.length) (F7:rows.length+rows'.length≤maxLen) (hfit:(rows.length+rows'.length)*bytes≤140737488355328):Di P M0 w0 S n j (SR.c (BM e sz rows v)) ⟨d,BM e sz (rows++rows')⟩ o E (lens (rows.length+rows'.length)):=by
 refine ⟨hg,fun M w a rs Q4 he hI hj=> ?_⟩
 have h1:a.eval x=v:=(hx.ev he Cn).1
 have h2:=hy.ev he Cn
 obtain ⟨v',w',M',hrun,h3,h4,h5⟩:=ZY (ty:=o.type) ht hz hby Dr hzl hone hsz hI hj hl h2 hpos F7 hfit
 have Dl:(execOp a.eval o).run P w= .ok (.value v') w':=by simp [execOp,ho,resolve,invoke,builtin,h1,hrun]
 rw [Dl]
 refine ⟨M',h3,h4,?_⟩
 have:(SR.at_ (a.put o.dst v') ⟨d,BM e sz (rows++rows')⟩)=BM e sz (rows++rows') v':=by unfold SR.at_ Slot.val;dsimp only;rw [hd,Bk ID]
 rw [this];exact h5
theorem At.W7 {M:Av} {w:World} {sz:Nat} {e:TypeId} {rows:List (List Pr)} {v:Value} {j:Nat} (h:At M0 w0 S rs M w) (hj:rs[j]? =some (BM e sz rows v)) (hl:∀r∈rows,r.length=sz):
  ∃M',Ext M w M' w∧At M0 w0 S (rs.set j (As e sz v)) M' w∧(slice sz rows).h M' w v:=by
 have hjl:j<rs.length:=by rcases Nat.lt_or_ge j rs.length with h|h;exact h;rw [List.getElem?_eq_none h] at hj;cases hj
 rcases (h.hold _ (List.mem_of_getElem? hj)).1 with ⟨rfl,rfl⟩|gY
 · exact ⟨M,Ext.refl _ _,h.CD hj rfl rfl Ss,Ai sz M w _ rfl⟩
 ·
  obtain ⟨b,cap,spare,rfl,hnc,hcm,hsp,bS⟩:=gY
  have hC:=h.CD (r':=AE true b e (rows.flatten++spare.map is)) hj rfl rfl bS
  obtain ⟨M',h1,h2,h3⟩:=At.frz hC (List.getElem?_set_self hjl) hl hnc hcm (by rw [List.length_map];exact hsp)
  rw [List.set_set] at h2
  exact ⟨M',h1,h2,h3⟩
end
section
variable {P:Program} {L:Lg P} {n:Fm} {fz:Nat} {E:Env} {M0:Av} {w0:World} {S:Nat→Prop} {rs:List An} {o:Oper} {ops:Array Oper} {r:List Oper}
def yj (P:Program) (f:FuncId) (args:List Pr) (res:Pr) (r:An) (r':An) (r2:An):Prop:=Entry P f∧∀M0 w0 S rs M w vs,At M0 w0 S (r::r2::rs) M w→HL M w args vs→
 Calls P f vs.toArray w fun e w'=>∃v M',e= .returned v∧res.h M' w' v∧Ext M w M' w'∧At M0 w0 S (r'::r2::rs) M' w'
theorem yj.of {f : FuncId} {g : Func} {c : Code} {ps : List Pr} {res : Pr} {R R' R2 : An} (hf : P.funcs[f]? = some g) (hb : g.body = some c) (hname : (g.name == "runtime.NumGoroutine") = false) (hlen : ps.length ≤ g.ntmps)
  (h:∀M0 w0 S rs M1 w1,Tr (V_ P) g.ntmps (K1 0 ps) (Hp M0 w0 S (R::Ak M1 w1::R2::rs)) c (bodyPost P g (NY M0 w0 S (R2::rs) M1 w1 res (fun _=>R')))):yj P f ps res R R' R2:=by
 refine ⟨⟨g,hf,hname,by rw [hb];rfl⟩,fun M0 w0 S rs M w vs hI hv=> ?_⟩
 refine calls_of_wp hf hb (h M0 w0 S rs M w _ _ ⟨M,?_,rfl,FZ hv,?_⟩)
 ·
  have:=hv.length
  simp [this];omega
 · exact Wc
end
abbrev K9 (k:IntKind):Pr:=Cp.ex fun i:Int=>is (.int k i)
theorem EE (k:IntKind) (i:Int):Pr.le (is (.int k i)) (K9 k):=fun _ _ _ h=>⟨i,h⟩
section
variable {P:Program} {L:Lg P} {I:CS} {o:Oper} {E:Env}
theorem oa {op:BinOp} {t u:TypeId} {x y:Operand} {k:IntKind} (hop:(op== .xor||op== .or)=true) (ho:o.op= .binOp op t x y u) (hx:VL E x (K9 k)) (hy:VL E y (K9 k)):Ad P I o E (K9 k):=
 Ad.same fun M w a he _=>by
  obtain ⟨m,h1⟩:=hx.ev he Ap
  obtain ⟨n,h2⟩:=hy.ev he Ap
  have h1:a.eval x= .int k m:=h1
  have h2:a.eval y= .int k n:=h2
  cases op<;>simp at hop<;>exact ⟨_,by simp [execOp,ho,h1,h2,eqGuard,binOp,Op.intBits];rfl,_,rfl⟩
end
theorem Rk {β:Type} {f:β→List Pr} {l:List β} {qs:List Pr} {sz:Nat} (hf:∀x,(f x).length=sz) {i:Int} (h:i.toNat<l.length):((((l.map f).flatten++qs).drop (0+i.toNat*sz)).take sz)=f (l[i.toNat]'h):=by
 rw [Nat.zero_add];exact gV hf (List.getElem?_eq_getElem h)
theorem IZ {β:Type} {f:β→List Pr} {sz:Nat} (hf:∀x,(f x).length=sz) {l:List β} {qs:List Pr} {i:Int} {x:β} (h:i.toNat<l.length):((l.map f).flatten++qs).take (0+i.toNat*sz)++f x++((l.map f).flatten++qs).drop (0+i.toNat*sz+sz)=((l.set i.toNat x).map f).flatten++qs:=by
 rw [Nat.zero_add];exact M6 hf h
theorem P0 {β:Type} {l:List β} {i j:Int} (hi:i.toNat<l.length) (hj:j.toNat<l.length):((l.set i.toNat (l[j.toNat]'hj)).set j.toNat (l[i.toNat]'hi)).Perm l:=List.set_set_perm hi hj
section
variable {P:Program} {L:Lg P} {n:Fm} {fz:Nat} {E:Env} {M0:Av} {w0:World} {S:Nat→Prop} {rs:List An} {o:Oper} {β:Type} {b:Nat} {e:TypeId} {f:β→List Pr} {qs:List Pr} {Φ:List β→Prop}
def Gp (b:Nat) (e:TypeId) (f:β→List Pr) (Φ:List β→Prop) (qs:List Pr):An where
 blk:=some b
 new:=true
 h M w:=∃st:List β,Φ st∧(AE true b e ((st.map f).flatten++qs)).h M w
 st M w M' w' he hk h:=let ⟨st,h1,h2⟩:=h;⟨st,h1,(AE true b e ((st.map f).flatten++qs)).st M w M' w' he hk h2⟩
theorem St.Nr (j:Nat) (hj:rs[j]? =some (Gp b e f Φ qs)) {a:Act} {w:World} (h:St n E (Hp M0 w0 S rs) a w):
  ∃st:List β,Φ st∧St n E (Hp M0 w0 S (rs.set j (AE true b e ((st.map f).flatten++qs)))) a w:=by
 obtain ⟨M,h1,h2,h3,h4⟩:=h
 have h4:At M0 w0 S rs M w:=h4
 obtain ⟨st,hp,h8⟩:=(h4.hold _ (List.mem_of_getElem? hj)).1
 exact ⟨st,hp,M,h1,h2,h3,h4.CD hj rfl rfl h8⟩
theorem Tr.Nr {Q:Exit→Act→World→Prop} {c:Code} (j:Nat) (hj:rs[j]? =some (Gp b e f Φ qs))
  (k:∀st:List β,Φ st→Tr L n E (Hp M0 w0 S (rs.set j (AE true b e ((st.map f).flatten++qs)))) c Q):Tr L n E (Hp M0 w0 S rs) c Q:=
 fun a w hs=>let ⟨st,h1,h2⟩:=hs.Nr j hj;k st h1 a w h2
theorem Fin.Nr {Q:Exit→Act→World→Prop} {x:Exit} (j:Nat) (hj:rs[j]? =some (Gp b e f Φ qs))
  (k:∀st:List β,Φ st→Fin n E (Hp M0 w0 S (rs.set j (AE true b e ((st.map f).flatten++qs)))) Q x):Fin n E (Hp M0 w0 S rs) Q x:=
 fun a w hs=>let ⟨st,h1,h2⟩:=hs.Nr j hj;k st h1 a w h2
theorem TO.Nr {Q:Exit→Act→World→Prop} {ops:Array Oper} {r:List Oper} (j:Nat) (hj:rs[j]? =some (Gp b e f Φ qs))
  (k:∀st:List β,Φ st→TO P n ops r E (Hp M0 w0 S (rs.set j (AE true b e ((st.map f).flatten++qs)))) Q):TO P n ops r E (Hp M0 w0 S rs) Q:=
 fun m hl a w hs=>let ⟨st,h1,h2⟩:=hs.Nr j hj;k st h1 m hl a w h2
theorem St.K_ {st:List β} (j:Nat) (hj:rs[j]? =some (AE true b e ((st.map f).flatten++qs))) (hp:Φ st) {a:Act} {w:World} (h:St n E (Hp M0 w0 S rs) a w):St n E (Hp M0 w0 S (rs.set j (Gp b e f Φ qs))) a w:=by
 obtain ⟨M,h1,h2,h3,h4⟩:=h
 have h4:At M0 w0 S rs M w:=h4
 exact ⟨M,h1,h2,h3,h4.CD hj rfl rfl ⟨st,hp,(h4.hold _ (List.mem_of_getElem? hj)).1⟩⟩
theorem Tr.K_ {Q:Exit→Act→World→Prop} {c:Code} {st:List β} (Φ:List β→Prop) (j:Nat) (hj:rs[j]? =some (AE true b e ((st.map f).flatten++qs))) (hp:Φ st)
  (k:Tr L n E (Hp M0 w0 S (rs.set j (Gp b e f Φ qs))) c Q):Tr L n E (Hp M0 w0 S rs) c Q:=Tr.conv (fun _ _ hs=>hs.K_ j hj hp) k
theorem Fin.K_ {Q:Exit→Act→World→Prop} {x:Exit} {st:List β} (Φ:List β→Prop) (j:Nat) (hj:rs[j]? =some (AE true b e ((st.map f).flatten++qs))) (hp:Φ st)
  (k:Fin n E (Hp M0 w0 S (rs.set j (Gp b e f Φ qs))) Q x):Fin n E (Hp M0 w0 S rs) Q x:=Fin.conv (fun _ _ hs=>hs.K_ j hj hp) k
instance (priority:=300) yl (b:Bool) (p:Prop) [h:Df b false p]:Df (!b) true p:=⟨fun e=>h.EA (by simpa using e)⟩
instance (priority:=300) ym (b:Bool) (p:Prop) [h:Df b true p]:Df (!b) false p:=⟨fun e=>h.EA (by simpa using e)⟩
end
end Cp
namespace Cp
open Go.Sort
section
variable {β:Type} [Inhabited β] {c:β×β→Int} {st:List β} {a b i j:Int}
def ltc (c:β×β→Int) (x y:β):Bool:=decide (c (x,y)<0)
theorem gx (h:i.toNat<st.length):st.toArray[i.toNat]! =st[i.toNat]:=by simp [h]
theorem sw (hi:i.toNat<st.length) (hj:j.toNat<st.length):((st.set i.toNat (st[j.toNat]'hj)).set j.toNat (st[i.toNat]'hi)).toArray=swp st.toArray i.toNat j.toNat:=by
 unfold swp
 rw [gx hi,gx hj]
 simp [Array.setIfInBounds_def,hi,hj]
omit [Inhabited β] in
theorem yp {x y:β} (h:¬c (x,y)<0):ltc c x y=false:=decide_eq_false h
variable {hi F r:Int}
variable {lt:β→β→Bool} {a0 b0 m n:Nat} {l s s':Array β}
structure PS (lt:β→β→Bool) (a0 b0 a b:Nat) (l s:Array β):Prop where
 ha:a0≤a
 hab:a≤b
 hb:b≤b0
 hp:PermIn a0 b0 l s
 below:Below lt a b s
 out:∀i j,a0≤i→i<j→j<b0→(i<a∨b≤j)→lt s[j]! s[i]! =false
theorem PS.perm (h:PS lt a0 b0 m n l s) (hs:b0≤l.size) (hq:PermIn m n s s'):PS lt a0 b0 m n l s':=by
 have hsz:s.size=l.size:=h.hp.1
 have hns:n≤s.size:=by have:=h.hb;omega
 refine ⟨h.ha,h.hab,h.hb,permIn_trans _ _ _ _ _ h.hp (permIn_mono _ _ _ _ _ _ h.ha h.hb AA hq),Below.permA permIn_all hns h.below hq,fun i j h1 h2 h3 h4=> ?_⟩
 have hm:=h.hab
 by_cases hi:m≤i∧i<n
 ·
  have hj:n≤j:=by omega
  rw [hq.2.1 j (.inr hj)]
  exact permIn_all s s' m n (fun x=>lt s[j]! x=false) hns hq (fun k hk1 hk2=>h.out k j (by have:=h.ha;omega) AA h3 (.inr hj)) i hi.1 hi.2
 ·
  rw [hq.2.1 i AA]
  by_cases hj:m≤j∧j<n
  · exact permIn_all s s' m n (fun x=>lt x s[i]! =false) hns hq (fun k hk1 hk2=>h.out i k h1 AA (by have:=h.hb;omega) (.inl AA)) j hj.1 hj.2
  · rw [hq.2.1 j AA];exact h.out i j h1 h2 h3 h4
theorem PS.done (h:PS lt a0 b0 m n l s) (hs:SortedIn lt m n s):PermIn a0 b0 l s∧SortedIn lt a0 b0 s:=by
 refine ⟨h.hp,fun i j h1 h2 h3=> ?_⟩
 by_cases hh:i<m∨n≤j
 · exact h.out i j h1 h2 h3 hh
 · exact hs i j AA h2 AA
theorem PS.eq (hw:SWO lt) (h:PS lt a0 b0 m n l s) (hs:b0≤l.size) {pv:β} {k:Nat} (hm:0<m) (fR:lt s[m-1]! pv=false) (hk:m<k) (hkn:k≤n) (hq:PermIn m n s s') (h1:∀i,m≤i→i<k→lt pv s'[i]! =false) (h2:∀i,k≤i→i<n→lt pv s'[i]! =true):
  PS lt a0 b0 k n l s':=by
 have h':=h.perm hs hq
 have hle:∀j,m≤j→j<n→lt s'[j]! pv=false:=by
  intro j hj1 hj2
  by_cases hjk:k≤j
  · exact hw.asym (h2 j hjk hj2)
  ·
   have hb:=h'.below
   rcases hb with hb|hb
   · omega
   ·
    have hb:=hb j hj1 hj2
    rw [hq.2.1 (m-1) (.inl AA)] at hb
    exact hw.ntrans _ _ _ hb fR
 have key:∀i j,m≤i→i<k→m≤j→j<n→lt s'[j]! s'[i]! =false:=fun i j ha hb hc hd=>hw.ntrans _ _ _ (hle j hc hd) (h1 i ha hb)
 refine ⟨by have:=h.ha;omega,hkn,h.hb,h'.hp,.inr fun i hi1 hi2=>key (k-1) i AA AA AA hi2,fun i j g1 g2 g3 g4=> ?_⟩
 by_cases hh:i<m∨n≤j
 · exact h'.out i j g1 g2 g3 hh
 · exact key i j AA AA AA AA
structure ga (lt:β→β→Bool) (m n k:Nat) (s:Array β):Prop where
 h1:m≤k
 h2:k<n
 lo:∀i,m≤i→i<k→lt s[i]! s[k]! =true
 up:∀i,k<i→i<n→lt s[i]! s[k]! =false
theorem PS.left (hw:SWO lt) {k:Nat} (h:PS lt a0 b0 m n l s) (hs:b0≤l.size) (hp:ga lt m n k s) (hq:PermIn m k s s') (hso:SortedIn lt m k s'):PS lt a0 b0 (k+1) n l s':=by
 obtain ⟨h1,h2,lo,up⟩:=hp
 have hsz:s.size=l.size:=h.hp.1
 have hks:k≤s.size:=by have:=h.hb;omega
 have Wh:PermIn m n s s':=permIn_mono _ _ _ _ _ _ (Nat.le_refl _) AA (by have:=h.hb;omega) hq
 have h':=h.perm hs Wh
 have ek:s'[k]! =s[k]! :=hq.2.1 k (.inr (Nat.le_refl _))
 have lo':∀i,m≤i→i<k→lt s'[i]! s[k]! =true:=fun i g1 g2=>permIn_all s s' m k (fun x=>lt x s[k]! =true) hks hq lo i g1 g2
 have up':∀i,k<i→i<n→lt s'[i]! s[k]! =false:=fun i g1 g2=>by rw [hq.2.1 i (.inr AA)];exact up i g1 g2
 refine ⟨by have:=h.ha;omega,by omega,h.hb,h'.hp,.inr fun i g1 g2=> ?_,fun i j g1 g2 g3 g4=> ?_⟩
 · rw [show k+1-1=k by omega,ek];exact up' i AA g2
 ·
  by_cases hh:i<m∨n≤j
  · exact h'.out i j g1 g2 g3 hh
  ·
   rcases Nat.lt_trichotomy i k with hik|hik|hik
   ·
    rcases Nat.lt_trichotomy j k with hjk|hjk|hjk
    · exact hso i j AA g2 hjk
    · subst hjk;rw [ek];exact hw.asym (lo' i AA hik)
    · exact Yv
   · subst hik;rw [ek];exact up' j g2 AA
   · omega
theorem PS.right (hw:SWO lt) {k:Nat} (h:PS lt a0 b0 m n l s) (hs:b0≤l.size) (hp:ga lt m n k s) (hq:PermIn (k+1) n s s') (hso:SortedIn lt (k+1) n s'):PS lt a0 b0 m k l s':=by
 obtain ⟨h1,h2,lo,up⟩:=hp
 have hsz:s.size=l.size:=h.hp.1
 have hns:n≤s.size:=by have:=h.hb;omega
 have Wh:PermIn m n s s':=permIn_mono _ _ _ _ _ _ AA (Nat.le_refl _) hns hq
 have h':=h.perm hs Wh
 have ek:s'[k]! =s[k]! :=hq.2.1 k (.inl AA)
 have lo':∀i,m≤i→i<k→lt s'[i]! s[k]! =true:=fun i g1 g2=>by rw [hq.2.1 i (.inl AA)];exact lo i g1 g2
 have up':∀i,k<i→i<n→lt s'[i]! s[k]! =false:=fun i g1 g2=>permIn_all s s' (k+1) n (fun x=>lt x s[k]! =false) hns hq (fun i q1 q2=>up i AA q2) i AA g2
 refine ⟨h.ha,h1,by have:=h.hb;omega,h'.hp,?_,fun i j g1 g2 g3 g4=> ?_⟩
 ·
  rcases h'.below with hb|hb
  · exact .inl hb
  · exact .inr fun i q1 q2=>hb i q1 AA
 ·
  by_cases hh:i<m∨n≤j
  · exact h'.out i j g1 g2 g3 hh
  ·
   rcases Nat.lt_trichotomy i k with hik|hik|hik
   ·
    rcases Nat.lt_trichotomy j k with hjk|hjk|hjk
    · omega
    · subst hjk;rw [ek];exact hw.asym (lo' i AA hik)
    · exact Yv
   · subst hik;rw [ek];exact up' j g2 AA
   · exact hso i j AA g2 AA
end
section
variable {β:Type} [Inhabited β] {c:β×β→Int} {st:List β}
def Adj (c:β×β→Int) (a b:Int) (l:List β):Prop:=∀k,a.toNat<k→k<b.toNat→ltc c l.toArray[k]! l.toArray[k-1]! =false
theorem Adj.go {a i k:Int} (h:Adj c a i st) (h0:0≤a) (ha:a<i) (hk:k=i-1) (hi:i.toNat<st.length) (hk':k.toNat<st.length) (hc:0≤c (st[i.toNat]'hi,st[k.toNat]'hk')):Adj c a (i+1) st:=fun m h1 h2=>by
 rcases Nat.lt_or_ge m i.toNat with hm|hm
 · exact h m h1 hm
 ·
  have e:m=i.toNat:=by omega
  subst e
  rw [show i.toNat-1=k.toNat by omega,gx hi,gx hk'];exact yp AA
end
section
variable {β:Type} [Inhabited β]
def I0 (a b:Int) (l st:List β):Prop:=PermIn a.toNat b.toNat l.toArray st.toArray
def sB (c:β×β→Int) (a b:Int) (l st:List β):Prop:=PermIn a.toNat b.toNat l.toArray st.toArray∧SortedIn (ltc c) a.toNat b.toNat st.toArray
theorem I0.len {a b:Int} {l st:List β} (h:I0 a b l st):st.length=l.length:=by have:=h.1;simpa using this
theorem sB.len {c:β×β→Int} {a b:Int} {l st:List β} (h:sB c a b l st):st.length=l.length:=by have:=h.1.1;simpa using this
def sC (c:β×β→Int) (hi first lo:Int) (l st:List β):Prop:=st.length=l.length∧st.toArray=siftDown (ltc c) hi.toNat first.toNat lo.toNat l.toArray
theorem sC.len {c:β×β→Int} {hi first lo:Int} {l st:List β} (h:sC c hi first lo l st):st.length=l.length:=h.1
abbrev PE (c:β×β→Int) (a b pv:Int) (l:List β):Nat×Array β:=partitionEqual (ltc c) l.toArray a.toNat b.toNat pv.toNat
abbrev PA (c:β×β→Int) (a b pv:Int) (l:List β):Nat×Bool×Array β:=partition (ltc c) l.toArray a.toNat b.toNat pv.toNat
def sD (c:β×β→Int) (a b pv:Int) (l st:List β):Prop:=st.length=l.length∧st.toArray=(PE c a b pv l).2
def sE (c:β×β→Int) (a b pv:Int) (l st:List β):Prop:=st.length=l.length∧st.toArray=(PA c a b pv l).2.2
theorem sD.len {c:β×β→Int} {a b pv:Int} {l st:List β} (h:sD c a b pv l st):st.length=l.length:=h.1
theorem sE.len {c:β×β→Int} {a b pv:Int} {l st:List β} (h:sE c a b pv l st):st.length=l.length:=h.1
theorem I0.refl (a b:Int) (l:List β):I0 a b l l:=permIn_refl _ _ _
theorem I0.swap {a b i j:Int} {l st:List β} (h:I0 a b l st) (hi:i.toNat<st.length) (hj:j.toNat<st.length) (h1:a.toNat≤i.toNat) (h2:i.toNat<b.toNat) (h3:a.toNat≤j.toNat) (h4:j.toNat<b.toNat) (hb:b.toNat≤l.length):
  I0 a b l ((st.set i.toNat (st[j.toNat]'hj)).set j.toNat (st[i.toNat]'hi)):=by
 unfold I0
 rw [sw hi hj]
 exact permIn_trans _ _ _ _ _ h (swp_permIn _ _ _ _ _ h1 h2 h3 h4 (by have:=h.len;simp;omega))
theorem I0.trans {a b:Int} {l m st:List β} (h:I0 a b l m) (k:I0 a b m st):I0 a b l st:=permIn_trans _ _ _ _ _ h k
end
section
open Go
variable {P:Program} {L:Lg P} {n:Fm} {fz:Nat} {E:Env} {M0:Av} {w0:World} {S:Nat→Prop} {rs:List An} {new:Bool} {b:Nat} {T:TypeId} {ps:List Pr}
end
end Cp
namespace Cp
open Go Go.RowKit Go.Great
section
variable {P:Program} {L:Lg P} {n:Fm} {fz:Nat} {E:Env} {I:CS} {Q:Exit→Act→World→Prop}
theorem Tr.KB {α0 α1:Type} (K:Env) (hK:CE E K) (F:α0→α1→Value→Env) (Ii:α0→α1→Value→CS) (C:α0→α1→Prop) {x y:Code} (h:Tr L n E I x (Exit.then (fun a w=>∃x0 x1 v0,C x0 x1∧St n (F x0 x1 v0++K) (Ii x0 x1 v0) a w) Q))
  (k:∀x0 x1 v0,C x0 x1→Tr L n (F x0 x1 v0++K) (Ii x0 x1 v0) y Q):Tr L n E I (.seq x y) Q:=
 Tr.cut (fun y:α0×α1×Value=>F y.1 y.2.1 y.2.2++K) (fun y=>Ii y.1 y.2.1 y.2.2) (fun y=>C y.1 y.2.1) (Tr.post h fun e a w h=>by cases e<;>first|exact h|(obtain ⟨x0,x1,v0,h1,h2⟩:=h;exact ⟨(x0,x1,v0),h1,h2⟩)) fun y hy=>k y.1 y.2.1 y.2.2 hy
theorem Tr.og {α0 α1 α2:Type} (K:Env) (hK:CE E K) (F:α0→α1→α2→Env) (Ii:α0→α1→α2→CS) (C:α0→α1→α2→Prop) {x y:Code} (h:Tr L n E I x (Exit.then (fun a w=>∃x0 x1 x2,C x0 x1 x2∧St n (F x0 x1 x2++K) (Ii x0 x1 x2) a w) Q))
  (k:∀x0 x1 x2,C x0 x1 x2→Tr L n (F x0 x1 x2++K) (Ii x0 x1 x2) y Q):Tr L n E I (.seq x y) Q:=
 Tr.cut (fun y:α0×α1×α2=>F y.1 y.2.1 y.2.2++K) (fun y=>Ii y.1 y.2.1 y.2.2) (fun y=>C y.1 y.2.1 y.2.2) (Tr.post h fun e a w h=>by cases e<;>first|exact h|(obtain ⟨x0,x1,x2,h1,h2⟩:=h;exact ⟨(x0,x1,x2),h1,h2⟩)) fun y hy=>k y.1 y.2.1 y.2.2 hy
end
section
variable {P:Program} {L:Lg P} {n:Fm} {fz:Nat} {E:Env} {M0:Av} {w0:World} {S:Nat→Prop} {rs:List An} {β:Type} {e:TypeId} {sz:Nat} {f:β→List Pr} {Φ:List β→Prop} {v:Value}
def P3 (e:TypeId) (sz:Nat) (f:β→List Pr) (Φ:List β→Prop) (v:Value):An where
 blk:=match v with| .slice (some a) _ _=>some a.block|_=>none
 new:=true
 h M w:=∃st:List β,Φ st∧(BM e sz (st.map f) v).h M w
 st M w M' w' he hk h:=let ⟨st,h1,h2⟩:=h;⟨st,h1,(BM e sz (st.map f) v).st M w M' w' he hk h2⟩
theorem BR.oh {g:FuncId} {l:List β} {ps:List Pr} {res:Pr} [JA res] (h0:l=[]→BD P g (is (.slice none 0 0)::ps) res∧Φ [])
  (h1:∀(b cap:Nat) (sp:List Value),BR P g (is (.slice (some ⟨b,0,none⟩) l.length cap)::ps) res (AE true b e ((l.map f).flatten++sp.map is)) (fun _=>Gp b e f Φ (sp.map is)))
  (hl:∀st,Φ st→st.length=l.length) (hE:Entry P g):BR P g (is v::ps) res (BM e sz (l.map f) v) (fun _=>P3 e sz f Φ v):=by
 refine ⟨hE,fun M0 w0 S rs M w vs hI hv=> ?_⟩
 have hb0:=hI.hold _ (List.mem_cons_self ..)
 rcases hb0.1 with ⟨hnil,rfl⟩|gY
 ·
  have mU:l=[]:=by simpa using hnil
  obtain ⟨h01,h02⟩:=h0 mU
  refine (h01.2 M w vs hI.bd hv).mono ?_
  rintro e' w' ⟨u,rfl,h2,h3⟩
  have OW:At M0 w0 S (BM e sz (l.map f) (.slice none 0 0)::rs) M w':=(Hp M0 w0 S _).st _ _ _ h3 hI
  exact ⟨u,M,rfl,JA.free _ _ _ _ h2,Ext.below h3,OW.CD (i:=0) rfl rfl rfl ⟨[],h02,.inl ⟨rfl,rfl⟩⟩⟩
 ·
  obtain ⟨b,cap,spare,rfl,hnc,hcm,hsp,bS⟩:=gY
  have hC:=hI.CD (i:=0) (r':=AE true b e ((l.map f).flatten++spare.map is)) rfl rfl rfl bS
  have hlm:(l.map f).length=l.length:=List.length_map ..
  rw [hlm] at hv
  refine ((h1 b cap spare).2 M0 w0 S rs M w vs hC hv).mono ?_
  rintro e' w' ⟨u,M',rfl,h2,h3,h4⟩
  refine ⟨u,M',rfl,h2,h3,?_⟩
  obtain ⟨st,hp,hst⟩:=(h4.hold _ (List.mem_cons_self ..)).1
  have hlen:(st.map f).length=(l.map f).length:=by rw [List.length_map,List.length_map,hl st hp]
  exact h4.CD (i:=0) rfl rfl rfl ⟨st,hp,.inr ⟨b,cap,spare,by rw [hlen],by rw [hlen];exact hnc,hcm,by rw [hlen];exact hsp,hst⟩⟩
theorem St.gb (j d:Nat) {p:Pr} (hj:rs[j]? =some (P3 e sz f Φ v)) (hd:E.lookup d=some (Ae v p)) (hf:∀x,(f x).length=sz) {a:Act} {w:World} (hs:St n E (Hp M0 w0 S rs) a w):
  ∃st:List β,Φ st∧St n ((d,Ae v (slice sz (st.map f)))::E) (Hp M0 w0 S (rs.set j (As e sz v))) a w:=by
 obtain ⟨M,h1,h2,h3,h4⟩:=hs
 have h4:At M0 w0 S rs M w:=h4
 have hjl:j<rs.length:=by rcases Nat.lt_or_ge j rs.length with h|h;exact h;rw [List.getElem?_eq_none h] at hj;cases hj
 obtain ⟨st,hp,hst⟩:=(h4.hold _ (List.mem_of_getElem? hj)).1
 have h5:=h4.CD (r':=BM e sz (st.map f) v) hj rfl rfl hst
 obtain ⟨M',h6,h7,h8⟩:=At.W7 h5 (List.getElem?_set_self hjl) (BL hf)
 rw [List.set_set] at h7
 refine ⟨st,hp,M',h1,h2,fun s q hq=> ?_,h7⟩
 simp only [List.lookup] at hq
 split at hq
 ·
  rename_i e1
  have:s=d:=by simpa using e1
  subst this
  simp only [Option.some.injEq] at hq
  subst hq
  have h9:=(h3 _ _ hd).1
  exact ⟨h9,by rw [h9];exact h8⟩
 · exact q.st _ _ _ _ _ h6 (h3 s q hq)
theorem TO.gb {Q:Exit→Act→World→Prop} {ops:Array Oper} {r:List Oper} (j d:Nat) {p:Pr} (hj:rs[j]? =some (P3 e sz f Φ v)) (hd:E.lookup d=some (Ae v p)) (hf:∀x,(f x).length=sz)
  (k:∀st:List β,Φ st→TO P n ops r ((d,Ae v (slice sz (st.map f)))::E) (Hp M0 w0 S (rs.set j (As e sz v))) Q):TO P n ops r E (Hp M0 w0 S rs) Q:=
 fun m hl a w hs=>let ⟨st,h1,h2⟩:=hs.gb j d hj hd hf;k st h1 m hl a w h2
theorem Tr.gb {Q:Exit→Act→World→Prop} {c:Code} (j d:Nat) {p:Pr} (hj:rs[j]? =some (P3 e sz f Φ v)) (hd:E.lookup d=some (Ae v p)) (hf:∀x,(f x).length=sz)
  (k:∀st:List β,Φ st→Tr L n ((d,Ae v (slice sz (st.map f)))::E) (Hp M0 w0 S (rs.set j (As e sz v))) c Q):Tr L n E (Hp M0 w0 S rs) c Q:=
 fun a w hs=>let ⟨st,h1,h2⟩:=hs.gb j d hj hd hf;k st h1 a w h2
theorem St.om {rows:List (List Pr)} (j d:Nat) {p:Pr} (hj:rs[j]? =some (BM e sz rows v)) (hd:E.lookup d=some (Ae v p)) (hf:∀r∈rows,r.length=sz) {a:Act} {w:World} (hs:St n E (Hp M0 w0 S rs) a w):
  St n ((d,Ae v (slice sz rows))::E) (Hp M0 w0 S (rs.set j (As e sz v))) a w:=by
 obtain ⟨M,h1,h2,h3,h4⟩:=hs
 have h4:At M0 w0 S rs M w:=h4
 obtain ⟨M',h6,h7,h8⟩:=At.W7 h4 hj hf
 refine ⟨M',h1,h2,fun s q hq=> ?_,h7⟩
 simp only [List.lookup] at hq
 split at hq
 ·
  rename_i e1
  have:s=d:=by simpa using e1
  subst this
  simp only [Option.some.injEq] at hq
  subst hq
  have h9:=(h3 _ _ hd).1
  exact ⟨h9,by rw [h9];exact h8⟩
 · exact q.st _ _ _ _ _ h6 (h3 s q hq)
theorem Tr.om {Q:Exit→Act→World→Prop} {c:Code} {rows:List (List Pr)} (j d:Nat) {p:Pr} (hj:rs[j]? =some (BM e sz rows v)) (hd:E.lookup d=some (Ae v p)) (hf:∀r∈rows,r.length=sz)
  (k:Tr L n ((d,Ae v (slice sz rows))::E) (Hp M0 w0 S (rs.set j (As e sz v))) c Q):Tr L n E (Hp M0 w0 S rs) c Q:=
 fun a w hs=>k a w (hs.om j d hj hd hf)
theorem Gg {rows:List (List Pr)} (h:rows=[]):Pr.le (is (.slice none 0 0)) (Ae (.slice none 0 0) (lens rows.length)):=by
 subst h;exact fun _ _ _ hv=>⟨hv,⟨none,0,by rw [hv];rfl⟩⟩
theorem C0 {v:Value} {a b:Nat} (h:a=b):Pr.le (Ae v (lens a)) (Ae v (lens b)):=by subst h;exact Pr.le_refl _
end
section
variable {P:Program} {L:Lg P} {n:Fm} {fz:Nat} {E:Env} {M0:Av} {w0:World} {S:Nat→Prop} {rs:List An} {o:Oper}
end
section
variable {P:Program} {L:Lg P} {n:Fm} {fz:Nat} {E:Env} {M0:Av} {w0:World} {S:Nat→Prop} {rs:List An} {ε:Type} {res:ε→List An}
def Gw (res:ε→List An) (es:List ε):List An:=es.flatMap res
theorem Tc:∀{es:List ε} {k:Nat} {x:ε},es[k]? =some x→(Gw res es).Perm (res x++Gw res (es.eraseIdx k))
 |[],_,_,h=>by simp at h
 |a::es,0,x,h=>by
  simp only [List.getElem?_cons_zero,Option.some.injEq] at h
  subst h
  exact List.Perm.refl _
 |a::es,k+1,x,h=>by
  have ih:=Tc (es:=es) (k:=k) (x:=x) DM
  show (res a++Gw res es).Perm (res x++(res a++Gw res (es.eraseIdx k)))
  refine (ih.append_left (res a)).trans ?_
  rw [←List.append_assoc,←List.append_assoc]
  exact List.perm_append_comm.append_right _
theorem ZZ:∀{es:List ε} {k:Nat} (x:ε),k<es.length→(res x++Gw res (es.eraseIdx k)).Perm (Gw res (es.set k x))
 |[],_,_,h=>absurd h (Nat.not_lt_zero _)
 |a::es,0,x,_=>List.Perm.refl _
 |a::es,k+1,x,h=>by
  have ih:=ZZ (es:=es) (k:=k) x DM
  show (res x++(res a++Gw res (es.eraseIdx k))).Perm (res a++Gw res (es.set k x))
  refine List.Perm.trans ?_ (ih.append_left (res a))
  rw [←List.append_assoc,←List.append_assoc]
  exact List.perm_append_comm.append_right _
theorem U0 (es:List ε) (x:ε):Gw res (es++[x])=Gw res es++res x:=by unfold Gw;simp
theorem P4 {a b c:List An} (h:b.Perm c):(a++b).Perm (a++c):=h.append_left a
theorem St.perm {rs':List An} (hp:rs.Perm rs') {a:Act} {w:World} (h:St n E (Hp M0 w0 S rs) a w):St n E (Hp M0 w0 S rs') a w:=by
 obtain ⟨M,h1,h2,h3,h4⟩:=h
 exact ⟨M,h1,h2,h3,At.perm hp h4⟩
theorem Tr.focus {Q:Exit→Act→World→Prop} {c:Code} (CZ:List An) {es:List ε} {k:Nat} {x:ε} (hx:es[k]? =some x) (OC:rs=CZ++Gw res es) (kk:Tr L n E (Hp M0 w0 S (res x++(CZ++Gw res (es.eraseIdx k)))) c Q):Tr L n E (Hp M0 w0 S rs) c Q:=
 Tr.conv (fun _ _ hs=>hs.perm (by
  subst OC
  refine (P4 (Tc hx)).trans ?_
  rw [←List.append_assoc,←List.append_assoc]
  exact List.perm_append_comm.append_right _)) kk
theorem L9 (CZ:List An) {es:List ε} {k:Nat} (x:ε) (hk:k<es.length) (OC:rs=res x++(CZ++Gw res (es.eraseIdx k))):rs.Perm (CZ++Gw res (es.set k x)):=by
 subst OC
 refine List.Perm.trans ?_ (P4 (ZZ x hk))
 rw [←List.append_assoc,←List.append_assoc]
 exact List.perm_append_comm.append_right _
theorem Fin.Td {Q:Exit→Act→World→Prop} {e:Exit} (CZ:List An) {es:List ε} {k:Nat} (x:ε) (hk:k<es.length) (OC:rs=res x++(CZ++Gw res (es.eraseIdx k))) (kk:Fin n E (Hp M0 w0 S (CZ++Gw res (es.set k x))) Q e):Fin n E (Hp M0 w0 S rs) Q e:=
 Fin.conv (fun _ _ hs=>hs.perm (L9 CZ x hk OC)) kk
theorem Tr.Td {Q:Exit→Act→World→Prop} {c:Code} (CZ:List An) {es:List ε} {k:Nat} (x:ε) (hk:k<es.length) (OC:rs=res x++(CZ++Gw res (es.eraseIdx k))) (kk:Tr L n E (Hp M0 w0 S (CZ++Gw res (es.set k x))) c Q):Tr L n E (Hp M0 w0 S rs) c Q:=
 Tr.conv (fun _ _ hs=>hs.perm (L9 CZ x hk OC)) kk
theorem Tr.fold {Q:Exit→Act→World→Prop} {c:Code} (CZ:List An) {es:List ε} (x:ε) (OC:rs=res x++(CZ++Gw res es)) (kk:Tr L n E (Hp M0 w0 S (CZ++Gw res (es++[x]))) c Q):Tr L n E (Hp M0 w0 S rs) c Q:=
 Tr.conv (fun _ _ hs=>hs.perm (by
  subst OC
  rw [U0,←List.append_assoc CZ]
  exact List.perm_append_comm)) kk
theorem Tr.yq {Q:Exit→Act→World→Prop} {c:Code} {e:TypeId} {sz:Nat} {rows:List (List Pr)} {v:Value} (j:Nat) (hj:rs[j]? =some (BM e sz rows v)) (hne:rows≠[])
  (k:∀(b cap:Nat) (sp:List Value),v= .slice (some ⟨b,0,none⟩) rows.length cap→rows.length≤cap→cap≤maxLen→sp.length=(cap-rows.length)*sz→Tr L n E (Hp M0 w0 S (rs.set j (AE true b e (rows.flatten++sp.map is)))) c Q):Tr L n E (Hp M0 w0 S rs) c Q:=by
 intro a w hs
 obtain ⟨M,h1,h2,h3,h4⟩:=hs
 have h4:At M0 w0 S rs M w:=h4
 rcases (h4.hold _ (List.mem_of_getElem? hj)).1 with ⟨h5,_⟩|⟨b,cap,sp,rfl,h5,h6,h7,h8⟩
 · exact absurd h5 hne
 · exact k b cap sp rfl h5 h6 h7 a w ⟨M,h1,h2,h3,h4.CD hj rfl rfl h8⟩
end
section
variable {P:Program} {L:Lg P} {n:Fm} {fz:Nat} {E:Env} {M0:Av} {w0:World} {S:Nat→Prop} {rs:List An} {o:Oper}
end
section
variable {P:Program} {L:Lg P} {n:Fm} {fz:Nat} {E:Env} {M0:Av} {w0:World} {S:Nat→Prop} {rs:List An} {o:Oper}
theorem BR.W8 {f:FuncId} {e:TypeId} {sz:Nat} {rows:List (List Pr)} {ps:List Pr} {res:Pr} {R:An} (h:BR P f ps res R (fun v=>DE e sz rows v)):BR P f ps res R (fun v=>BM e sz rows v):=by
 refine ⟨h.1,fun M0 w0 S rs M w vs hI hv=>(h.2 M0 w0 S rs M w vs hI hv).mono ?_⟩
 rintro e' w' ⟨v,M',rfl,h2,h3,h4⟩
 exact ⟨v,M',rfl,h2,h3,h4.CD (i:=0) rfl rfl rfl (.inr (h4.hold _ (List.mem_cons_self ..)).1)⟩
instance wL (p q:Pr) [JA p] [JA q]:JA (F8 [p,q]):=⟨fun M M' w v ⟨cs,h1,h2⟩=>⟨cs,h1,by
 match cs,h2 with
 |[a,b],h2=>exact ⟨JA.free _ _ _ _ h2.1,JA.free _ _ _ _ h2.2.1,trivial⟩⟩⟩
end
section
variable {P:Program} {L:Lg P} {n:Fm} {fz:Nat} {E:Env} {M0:Av} {w0:World} {S:Nat→Prop} {o:Oper}
end
section
variable {P:Program} {L:Lg P} {n:Fm} {fz:Nat} {E:Env} {M0:Av} {w0:World} {S:Nat→Prop} {rs:List An} {ε:Type} {res:ε→List An}
theorem At.Te {Φ:ε→Av→World→Prop} {w:World} (hst:∀x M M',Ext M w M' w→Φ x M w→Φ x M' w) (h1:∀x rs M,At M0 w0 S (res x++rs) M w→∃M',Ext M w M' w∧At M0 w0 S rs M' w∧Φ x M' w):
  ∀(X:List ε) (CZ:List An) (M:Av),At M0 w0 S (CZ++Gw res X) M w→∃M',Ext M w M' w∧At M0 w0 S CZ M' w∧∀x∈X,Φ x M' w
 |[],CZ,M,h=>⟨M,Ext.refl _ _,by simpa [Gw] using h,fun x hx=>by simp at hx⟩
 |x::X,CZ,M,h=>by
  have hp:(CZ++Gw res (x::X)).Perm (res x++(CZ++Gw res X)):=by
   show (CZ++(res x++Gw res X)).Perm _
   rw [←List.append_assoc,←List.append_assoc]
   exact List.perm_append_comm.append_right _
  obtain ⟨M1,g1,g2,g3⟩:=h1 x _ M (At.perm hp h)
  obtain ⟨M2,k1,k2,k3⟩:=At.Te hst h1 X CZ M1 g2
  refine ⟨M2,g1.trans k1,k2,fun y hy=> ?_⟩
  rcases List.mem_cons.1 hy with rfl|hy
  · exact hst _ _ _ k1 g3
  · exact k3 y hy
theorem Tr.eqC {Q:Exit→Act→World→Prop} {c:Code} (j:Nat) {new:Bool} {b:Nat} {T:TypeId} {ps:List Pr} (qs:List Pr) (hi:rs[j]? =some (AE new b T ps)) (h:ps=qs) (k:Tr L n E (Hp M0 w0 S (rs.set j (AE new b T qs))) c Q):Tr L n E (Hp M0 w0 S rs) c Q:=by
 subst h;exact Tr.HQ j ps hi (PW.rfl' ps) k
theorem Fin.eqC {Q:Exit→Act→World→Prop} {e:Exit} (j:Nat) {new:Bool} {b:Nat} {T:TypeId} {ps:List Pr} (qs:List Pr) (hi:rs[j]? =some (AE new b T ps)) (h:ps=qs) (k:Fin n E (Hp M0 w0 S (rs.set j (AE new b T qs))) Q e):Fin n E (Hp M0 w0 S rs) Q e:=by
 subst h;exact Fin.HQ j ps hi (PW.rfl' ps) k
theorem gh {e:TypeId} {sz:Nat} {rows rows':List (List Pr)} {v:Value} {M:Av} {w:World} (hl:rows.length=rows'.length) (hf:rows.flatten.length=rows'.flatten.length) (h:∀vs,HL M w rows.flatten vs→HL M w rows'.flatten vs) (ho:(BM e sz rows v).h M w):(BM e sz rows' v).h M w:=by
 rcases ho with ⟨h1,h2⟩|⟨b,cap,sp,h1,h2,h3,h4,h5,cs,h6,h7,h8⟩
 ·
  refine .inl ⟨?_,h2⟩
  subst h1
  exact List.length_eq_zero_iff.1 hl.symm
 ·
  refine .inr ⟨b,cap,sp,by rw [←hl];exact h1,by rw [←hl];exact h2,h3,by rw [←hl];exact h4,h5,cs,h6,?_,h8⟩
  have e1:=h7.take rows.flatten.length
  have e2:=h7.drop rows.flatten.length
  rw [List.take_left] at e1
  rw [List.drop_left] at e2
  have:=(h _ e1).app e2
  rwa [List.take_append_drop] at this
theorem Tr.Te {Q:Exit→Act→World→Prop} {c:Code} {X:List ε} {Φ:ε→Av→World→Prop} {e:TypeId} {sz d:Nat} {f g:ε→List Pr} {v:Value} {p:Pr} (CZ:List An) (OC:rs=BM e sz (X.map f) v::CZ++Gw res X) (hd:E.lookup d=some (Ae v p)) (hf:∀x,(f x).length=sz) (hg:∀x,(g x).length=sz)
  (hst:∀x M M' w,Ext M w M' w→Φ x M w→Φ x M' w) (h1:∀x rs M w,At M0 w0 S (res x++rs) M w→∃M',Ext M w M' w∧At M0 w0 S rs M' w∧Φ x M' w) (h2:∀x M w vs,Φ x M w→HL M w (f x) vs→HL M w (g x) vs)
  (k:Tr L n ((d,Ae v (slice sz (X.map g)))::E) (Hp M0 w0 S (As e sz v::CZ)) c Q):Tr L n E (Hp M0 w0 S rs) c Q:=by
 subst OC
 intro a w hs
 obtain ⟨M,k1,k2,k3,k4⟩:=hs
 have k4:At M0 w0 S ((BM e sz (X.map f) v::CZ)++Gw res X) M w:=k4
 obtain ⟨M1,g1,g2,g3⟩:=At.Te (Φ:=Φ) (fun x M M'=>hst x M M' w) (fun x rs M=>h1 x rs M w) X _ M k4
 have hlen:∀(f:ε→List Pr),(∀x,(f x).length=sz)→(X.map f).flatten.length=X.length*sz:=fun f hf=>by
  rw [CR (BL hf),List.length_map]
 have hown:(BM e sz (X.map g) v).h M1 w:=by
  refine gh AO (by rw [hlen f hf,hlen g hg]) (fun vs hvs=> ?_) (g2.hold _ (List.mem_cons_self ..)).1
  have key:∀(Y:List ε) (vs:List Value),(∀x∈Y,Φ x M1 w)→HL M1 w (Y.map f).flatten vs→HL M1 w (Y.map g).flatten vs:=by
   intro Y
   induction Y with
   |nil=>intro vs _ h;exact h
   |cons y Y ih=>
    intro vs hY h
    rw [List.map_cons,List.flatten_cons] at h ⊢
    have e1:=h.take (f y).length
    have e2:=h.drop (f y).length
    rw [List.take_left] at e1
    rw [List.drop_left] at e2
    have:=(h2 y M1 w _ (hY y (List.mem_cons_self ..)) e1).app (ih _ (fun x hx=>hY x (List.mem_cons_of_mem _ hx)) e2)
    rwa [List.take_append_drop] at this
  exact key X vs g3 hvs
 have g4:=g2.CD (i:=0) (r':=BM e sz (X.map g) v) rfl rfl rfl hown
 obtain ⟨M2,j1,j2,j3⟩:=At.W7 (j:=0) g4 rfl (BL hg)
 refine k a w ⟨M2,k1,k2,fun s q hq=> ?_,j2⟩
 have hE:Ext M w M2 w:=g1.trans j1
 simp only [List.lookup] at hq
 split at hq
 ·
  rename_i e1
  have:s=d:=by simpa using e1
  subst this
  simp only [Option.some.injEq] at hq
  subst hq
  have h9:=(k3 _ _ hd).1
  exact ⟨h9,by rw [h9];exact j3⟩
 · exact q.st _ _ _ _ _ hE (k3 s q hq)
end
section
variable {P:Program} {L:Lg P} {n:Fm} {fz:Nat} {E:Env} {M0:Av} {w0:World} {S:Nat→Prop} {o:Oper}
theorem U1 {I:CS} {t e:TypeId} {x:Operand} {m:Nat} (ho:o.op= .call { callee:= .builtin .len,args:= #[x],argTypes:= #[t] }) (ht:P.underlying t=some (.slice e)) (hx:VL E x (lens m)):Ad P I o E (int m):=
 Ad.same fun M w a he _=>by
  obtain ⟨A,c,h1⟩:=hx.ev he Cn
  exact ⟨.int .i64 m,by simp [execOp,ho,resolve,invoke,builtin,Builtin.len_,h1,run_underlying ht,goInt],rfl⟩
end
end Cp
namespace Cp
open Go Go.RowKit
section
variable {P:Program} {L:Lg P} {I:CS} {o:Oper} {E:Env}
theorem bT {c y:Operand} {b d:Bool} (ho:o.op= .pick c (.const (.bool true)) y) (hc:VL E c (bool b)) (hy:VL E y (bool d)):Ad P I o E (bool (b||d)):=by
 cases b with
 |true=>exact Mt ho hc rfl (vl rfl)
 |false=>exact Hg ho hc rfl hy
theorem W9 {c x:Operand} {b d:Bool} (ho:o.op= .pick c x (.const (.bool false))) (hc:VL E c (bool b)) (hx:VL E x (bool d)):Ad P I o E (bool (b&&d)):=by
 cases b with
 |true=>exact Mt ho hc rfl hx
 |false=>exact Hg ho hc rfl (vl rfl)
theorem W_ {β:Type} {g:β→Pr} {l:List β} {qs:List Pr} {i:Int} (h:i.toNat<l.length):((l.map fun x=>[g x]).flatten++qs)[0+i.toNat*1]? =some (g (l[i.toNat]'h)):=
 Uz (f:=fun x=>[g x]) (fun _=>rfl) (List.getElem?_eq_getElem h) rfl
end
section
variable {P:Program} {L:Lg P} {n:Fm} {fz:Nat} {E:Env} {M0:Av} {w0:World} {S:Nat→Prop} {rs:List An} {o:Oper}
end
end Cp
namespace Cp
open Go Go.RowKit Go.Great
def E2 {α:Type} (P:Program) (f:FuncId) (args:List Pr) (pre:List An) (C:α→Prop) (res:α→Pr) (post:α→List An):Prop:=Entry P f∧∀M0 w0 S rs M w vs,At M0 w0 S (pre++rs) M w→HL M w args vs→
 Calls P f vs.toArray w fun e w'=>∃v M' x,e= .returned v∧C x∧(res x).h M' w' v∧Ext M w M' w'∧At M0 w0 S (post x++rs) M' w'
def Ns {α:Type} (M0:Av) (w0:World) (S:Nat→Prop) (rs:List An) (M1:Av) (w1:World) (C:α→Prop) (res:α→Pr) (post:α→List An) (e:Ending) (w':World):Prop:=∃v M' x,e= .returned v∧C x∧(res x).h M' w' v∧Ext M1 w1 M' w'∧At M0 w0 S (post x++rs) M' w'
section
variable {P:Program} {L:Lg P} {n:Fm} {fz:Nat} {E:Env} {M0:Av} {w0:World} {S:Nat→Prop} {rs:List An} {α:Type} {pre:List An} {C:α→Prop} {res:α→Pr} {post:α→List An} {M1:Av} {w1:World} {g:Func} {o:Oper} {r:List Oper} {ops:Array Oper}
theorem E2.of {f : FuncId} {c : Code} {ps : List Pr} (hf : P.funcs[f]? = some g) (hb : g.body = some c) (hname : (g.name == "runtime.NumGoroutine") = false) (hlen : ps.length ≤ g.ntmps)
  (h:∀M0 w0 S rs M1 w1,Tr (V_ P) g.ntmps (K1 0 ps) (Hp M0 w0 S (pre++Ak M1 w1::rs)) c (bodyPost P g (Ns M0 w0 S rs M1 w1 C res post))):E2 P f ps pre C res post:=by
 refine ⟨⟨g,hf,hname,by rw [hb];rfl⟩,fun M0 w0 S rs M w vs hI hv=> ?_⟩
 refine calls_of_wp hf hb (h M0 w0 S rs M w _ _ ⟨M,?_,rfl,FZ hv,?_⟩)
 ·
  have:=hv.length
  simp [this];omega
 · exact Wd
theorem At.Nt {M:Av} {w:World} {f:FuncId} {args:List Pr} {rest:List An} (hf:E2 P f args pre C res post) (hp:rs.Perm (pre++rest)) (hI:At M0 w0 S rs M w) {vs:List Value} (hv:HL M w args vs):
  Calls P f vs.toArray w fun e w'=>∃v M' x,e= .returned v∧C x∧(res x).h M' w' v∧Ext M w M' w'∧At M0 w0 S (post x++rest) M' w':=hf.2 M0 w0 S rest M w vs (At.perm hp hI) hv
theorem TO.Nt {Q:Exit→Act→World→Prop} {f:FuncId} {xs:Array Operand} {ts:Array TypeId} {ps:List Pr} (rest:List An) {d:Nat} (hg:o.guard=none) (hd:o.dst=some d) (hn:d<n) (ho:o.op= .call { callee:= .value (.func f),args:=xs,argTypes:=ts }) (hf:E2 P f ps pre C res post)
  (hv:Gi E xs.toList ps) (hp:rs.Perm (pre++rest)) (k:∀x,C x→TO P n ops r ((d,res x)::E) (Hp M0 w0 S (post x++rest)) Q):TO P n ops (o::r) E (Hp M0 w0 S rs) Q:=
 TO.bI hg fun K M w a hsz hdf he hI hK=>by
  have hI:At M0 w0 S rs M w:=hI
  have h1:=Gi.FG (o:=o) (CF he) (xs:=xs.toList) (fun x hx=>by simp [ho,Op.operands,Call.operands];exact .inr Gf) hv
  have hrun:(execOp a.eval o).run P w= .ok (.enter f (xs.toList.map a.eval).toArray) w:=by
   simp [execOp,ho,resolve,Deferred.ofValue,Act.eval,invoke,Cz hf.1,Fy xs]
  unfold Oper.wp
  rw [hrun]
  refine (At.Nt hf hp hI h1).mono ?_
  rintro e w' ⟨v,M',x,rfl,hC,h2,h3,h4⟩
  refine hK _ _ _ _ (k x hC) ⟨M',by rw [Bp];exact hsz,by rw [put_defers];exact hdf,?_,h4⟩
  intro s q hq
  simp only [List.lookup] at hq
  by_cases hs:s=d
  · subst hs;simp at hq;subst hq;rw [hd,Bk Gd];exact h2
  · rw [show (s==d)=false by simpa using hs] at hq;rw [hd,BN hs];exact q.st _ _ _ _ _ h3 (he s q hq)
theorem Ht {l:List An} {M:Av} {w:World} (h:At M0 w0 S (l++Ak M1 w1::rs) M w):Ext M1 w1 M w∧At M0 w0 S (l++rs) M w:=
 ⟨(h.hold (Ak M1 w1) AO).1,(At.perm List.perm_middle h).Iv⟩
theorem Fin.Rl {rv:ResultVar} {q:Pr} {rs':List An} (x:α) (hr:g.results= #[rv]) (h:A7 P E rs' rv q) (hC:C x) (hl:Pr.le q (res x)) (hp:rs'.Perm (post x++Ak M1 w1::rs)):
  Fin ⟨fz,[]⟩ E (Hp M0 w0 S rs') (bodyPost P g (Ns M0 w0 S rs M1 w1 C res post)) .ret:=by
 rintro a w ⟨M,_,hd,he,hi⟩
 have hi:At M0 w0 S rs' M w:=hi
 obtain ⟨v,hv,hp'⟩:=h M w a he (fun q hq=>(hi.hold q hq).1)
 obtain ⟨h1,h2⟩:=Ht (At.perm hp hi)
 exact ⟨hd,v,results1 hr hv,_,M,x,rfl,hC,hl _ _ _ hp',h1,h2⟩
theorem Fin.Nu {rv rv':ResultVar} {q q':Pr} {rs':List An} (x:α) (hr:g.results= #[rv,rv']) (h:A7 P E rs' rv q) (h':A7 P E rs' rv' q') (hC:C x) (hl:Pr.le (F8 [q,q']) (res x)) (hp:rs'.Perm (post x++Ak M1 w1::rs)):
  Fin ⟨fz,[]⟩ E (Hp M0 w0 S rs') (bodyPost P g (Ns M0 w0 S rs M1 w1 C res post)) .ret:=by
 rintro a w ⟨M,_,hd,he,hi⟩
 have hi:At M0 w0 S rs' M w:=hi
 obtain ⟨v,hv,bU⟩:=h M w a he (fun q hq=>(hi.hold q hq).1)
 obtain ⟨v',hv',hp2⟩:=h' M w a he (fun q hq=>(hi.hold q hq).1)
 obtain ⟨h1,h2⟩:=Ht (At.perm hp hi)
 exact ⟨hd,_,results2 hr hv hv',_,M,x,rfl,hC,hl _ _ _ ⟨[_,_],rfl,bU,hp2,trivial⟩,h1,h2⟩
end
end Cp
