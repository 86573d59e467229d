/-
  Part 2 of the texts that prove this claim, merged.
-/
import Derived.ChangeArms
import Derived.OpenShut
import Derived.ChangeSame
import Derived.RowKit
import Derived.ProofKit
import Derived.Laws.MakeOwn
import Derived.Test.YtppdobdifkefcaaGreatDoorProg
import Derived.KernelRfl
import Derived.Lib.ConvBytes
import Derived.Lib.Bytealg
import Derived.Laws.StructEq
import Derived.Laws.Externs
import Derived.Lib.AtoiErrMem
import Derived.Laws.IdiomRangeMap
import Derived.Sort.LotA
import Derived.Sort.LotB
import Derived.Sort.LotC
import Derived.Lib.AppendZeros
import Derived.Lib.AppendZerosOnto
import Derived.Test.YtppdobdifkefcaaGreatDoorPlVP1
set_option linter.all false
set_option maxRecDepth 40000
set_option maxHeartbeats 16000000
namespace Cp
open Go Go.RowKit Go.Great Go.ChangeShapes Go.WideShapes
def Xn:Av:=fun _ _=>False
theorem bk (w:World):Bd Xn w:=fun _ _ h=>h.elim
def JA (P:Program) (t:TypeId) {α:Type} (ok:α→Prop) (f:α→List Pr):Prop:=
 ∀(H:Type) (enc:TypeId×Value→H) (w:World) (fuel:Nat) (cs:List Value) (x:DataW H×List MemPlace),DataW.trod enc P w 0 (fun _=>true) true fuel t cs=some x→∃a,ok a∧HL Xn w (f a) cs∧∀c∈cs,c.oneCell'=true
theorem JA.map {P:Program} {t:TypeId} {α β:Type} {ok:α→Prop} {f:α→List Pr} {ok':β→Prop} {f':β→List Pr} (h:JA P t ok f) (g:α→β) (h1:∀a,ok a→ok' (g a)) (h2:∀a,f' (g a)=f a):JA P t ok' f':=by
 intro H enc w fuel cs x hx
 obtain ⟨a,h3,h4,h5⟩:=h H enc w fuel cs x hx
 exact ⟨g a,h1 a h3,by rw [h2];exact h4,h5⟩
theorem Ms {P:Program} {t:TypeId} {k:IntKind} (ht:P.underlying t=some (.int k)):JA P t (fun n:Int=>(Lit.int k n).wf=true) (fun n=>[is (.int k n)]):=by
 intro H enc w fuel cs x hx
 obtain ⟨n,rfl,_,hw⟩:=DataW.trod_int ht hx
 exact ⟨n,hw,⟨rfl,trivial⟩,by simp [Value.oneCell']⟩
theorem HL.len {M:Av} {w:World}:∀{ps:List Pr} {vs:List Value},HL M w ps vs→ps.length=vs.length
 |[],[],_=>rfl
 |p::ps,v::vs,h=>by simp [HL.len h.2]
 |[],_::_,h=>h.elim
 |_::_,[],h=>h.elim
theorem HL.nth {M:Av} {w:World}:∀{ps:List Pr} {vs:List Value} (j:Nat) (p:Pr),HL M w ps vs→ps[j]? =some p→∃v,vs[j]? =some v∧p.h M w v
 |p::ps,v::vs,0,q,h,hj=>by simp at hj;subst hj;exact ⟨v,rfl,h.1⟩
 |p::ps,v::vs,j+1,q,h,hj=>by simpa using HL.nth j q h.2 (by simpa using hj)
 |[],[],_,_,_,hj=>by simp at hj
 |[],_::_,_,_,h,_=>h.elim
 |_::_,[],_,_,h,_=>h.elim
theorem Lc {H:Type} {enc:TypeId×Value→H} {P:Program} {w:World} {e:TypeId} {α:Type} {ok:α→Prop} {f:α→List Pr} (he:JA P e ok f) {sz:Nat} (hc:P.cellsOf e=sz) {a:Addr} {m:Nat}:
  ∀(len:Nat),(∀i,i<len→∃y,(w.cells? 0 (a.add (i*sz)) sz).bind (DataW.trod enc P w 0 (fun _=>true) true m e)=some y)→
   ∃l:List α,l.length=len∧(∀z∈l,ok z)∧∀(i:Nat) z,l[i]? =some z→(f z).length=sz∧Row Xn w a (i*sz) (f z)
 |0,_=>⟨[],rfl,by simp,by simp⟩
 |len+1,h=>by
  obtain ⟨l,h1,h2,h3⟩:=Lc he hc len (fun i hi=>h i (by omega))
  obtain ⟨y,hy⟩:=h len (by omega)
  obtain ⟨cs,hcs,hy⟩:=Option.bind_eq_some_iff.1 hy
  obtain ⟨z,hz,hl,h1c⟩:=he H enc w m cs y hy
  obtain ⟨_,hlen,hat⟩:=World.cells?_some hcs
  refine ⟨l++[z],by simp [h1],?_,fun i u hu=> ?_⟩
  ·
   intro u hu
   rcases List.mem_append.1 hu with hu|hu
   · exact h2 u hu
   · rw [List.mem_singleton.1 hu];exact hz
  ·
   rcases Nat.lt_trichotomy i len with hi|hi|hi
   ·
    rw [List.getElem?_append_left (by omega)] at hu
    exact h3 i u hu
   ·
    subst hi
    rw [List.getElem?_append_right (by omega),h1] at hu
    simp at hu;subst hu
    have hfl:(f z).length=sz:=by rw [hl.len,hlen]
    refine ⟨hfl,fun j p hp=> ?_⟩
    obtain ⟨v,hv,Up⟩:=hl.nth j p hp
    have hj:j<sz:=by
     rcases Nat.lt_or_ge j (f z).length with h'|h'
     · omega
     · rw [List.getElem?_eq_none h'] at hp;cases hp
    refine ⟨v,?_,fun hf=>hf,h1c v (List.mem_of_getElem? hv),Up⟩
    rw [←hv,←hat j hj]
    rw [add_add]
   · rw [List.getElem?_eq_none (by simp [h1];omega)] at hu;cases hu
theorem Ol {P:Program} {t e:TypeId} {α:Type} {ok:α→Prop} {f:α→List Pr} {sz:Nat} (ht:P.underlying t=some (.slice e)) (hc:P.cellsOf e=sz) (he:JA P e ok f):
  JA P t (fun l:List α=>(∀z∈l,ok z)∧l.length≤maxLen) (fun l=>[slice sz (l.map f)]):=by
 intro H enc w fuel cs x hx
 rcases DataW.trod_slice ht hx with ⟨rfl,_⟩|⟨a,len,cap,elems,rest,n,rfl,rfl,_,_,hl,hm,hel,hat,_⟩
 · exact ⟨[],⟨by simp,by simp⟩,⟨⟨none,0,rfl,by simp,by simp,fun _=>rfl,by simp⟩,trivial⟩,by simp [Value.oneCell']⟩
 ·
  obtain ⟨l,h1,h2,h3⟩:=Lc (H:=H) (enc:=enc) (w:=w) (a:=a) (m:=n) he hc len (fun i hi=>by
   have:=hat i hi
   rw [hc] at this
   rw [this,List.getElem?_eq_getElem (by omega)]
   exact ⟨_,rfl⟩)
  refine ⟨l,⟨h2,by omega⟩,⟨⟨some a,cap,by simp [h1],by simp;omega,hm,by simp,fun i row hr=> ?_⟩,trivial⟩,by simp [Value.oneCell']⟩
  rw [List.getElem?_map] at hr
  cases hz:l[i]? with
  |none=>rw [hz] at hr;cases hr
  |some z=>
   rw [hz] at hr;simp at hr;subst hr
   obtain ⟨h4,h5⟩:=h3 i z hz
   exact ⟨h4,a,rfl,h5⟩
theorem SC {H:Type} {enc:TypeId×Value→H} {P:Program} {w:World} {t:TypeId} {α:Type} {ok:α→Prop} {p:α→Pr} (ho:JA P t ok (fun a=>[p a])) {v:Value} {d:DataW H} {ps:List MemPlace} (h:DataW.Trod enc P w 0 (fun _=>true) true t v d ps) (hv:v.cells= #[v]):
  ∃a,ok a∧(p a).h Xn w v:=by
 obtain ⟨fuel,hf⟩:=h
 obtain ⟨a,h1,h2,_⟩:=ho _ _ _ _ _ _ hf
 rw [hv] at h2
 exact ⟨a,h1,h2.1⟩
theorem Hw {H:Type} {enc:TypeId×Value→H} {P:Program} (hl:laidOutB P=true) {W W':World} (hb:Below W.heap.size W W'):
  ∀{ts:List TypeId} {vs:List Value} {ds:List (DataW H)} {ps:List MemPlace},ts.all (fun t=>P.readableRec t&&decide (t<P.types.size))=true→DataW.TrodAll enc P W 0 (fun _=>true) true ts vs ds ps→(∀x∈ps,x.block<W.heap.size)→
   DataW.TrodAll enc P W' 0 (fun b=>decide (b<W.heap.size)) true ts vs ds ps
 |[],vs,ds,ps,_,h,_=>by
  obtain ⟨rfl,rfl,rfl⟩:=trodAll_nil h
  rfl
 |t::ts,vs,ds,ps,hr,h,hlt=>by
  obtain ⟨v,vs',d,ds',p,q,rfl,rfl,rfl,h1,h2⟩:=trodAll_cons h
  simp only [List.all_cons,Bool.and_eq_true,decide_eq_true_eq] at hr
  exact ⟨p,q,Below.trod hl hr.1.1 hr.1.2 h1 hb (fun x hx=>hlt x (List.mem_append_left _ hx)),Hw hl hb (by simpa using hr.2) h2 (fun x hx=>hlt x (List.mem_append_right _ hx)),rfl⟩
theorem U2 {H:Type} {enc:TypeId×Value→H} {P:Program} {fn:Func} {s:ChangeSpec} {W W':World} {args:Array Value} {ds gs:List (DataW H)} {before p:List MemPlace} {tb:TypeId} (hl:laidOutB P=true)
  (hr:fn.params.toList.all (fun t=>P.readableRec t&&decide (t<P.types.size))=true) (hres:fn.resultTypes= #[tb]) (hb:P.underlying tb=some .bool) (hs:s.vars=[])
  (hA:DataW.TrodAll enc P W 0 (fun _=>true) true fn.params.toList args.toList ds p) (hp:before=p) (hW:DataW.Whole enc P fn.params.toList s.vars false W args.toList ds gs before)
  (hf:s.fn H (ds++gs)={ results:=[.lit (.bool true)],args:=ds }) (U3:Below W.heap.size W W'):s.post enc P fn false true false false W args (.bool true) W':=by
 subst hp
 refine ⟨ds,gs,before,[],before,[],hW,?_,?_,?_,U3.frame _,fun h=>by cases h⟩
 · rw [hf,hres];exact trodAll_mk1 (shut_bool hb _)
 · rw [hf];exact Hw hl U3 hr hA (fun x hx=>by simpa using hW.lt x hx)
 · rw [hf,hs];rfl
end Cp
namespace Cp
open Go Go.RowKit Go.Great
section
variable {P:Program} {L:Lg P} {n:Fm} {fz:Nat} {E:Env} {I:B6} {Q:Exit→Act→World→Prop}
theorem Tr.U4 {α0:Type} (K:Env) (hK:Bn E K) (F:α0→Env) (Ii:α0→B6) (C:α0→Prop) (μ:α0→Nat) {c:Code} (HO:α0)  (h0:C HO) (hs:Bn E (F HO)) (hI:∀M w,I.h M w→(Ii HO).h M w)
  (round:∀x0,C x0→Tr L n (F x0++K) (Ii x0) c (Exit.then (fun a w=>∃C9,(C C9∧μ C9<μ x0)∧St n (F C9++K) (Ii C9) a w) Q)):Tr L n E I (.loop c) Q:=
 Tr.I4 K hK (fun y:α0=>F y) (fun y=>Ii y) (fun y=>C y) (fun y=>μ y) HO h0 hs hI fun y hy=>
  Tr.post (round y hy) fun e a w h=>by
   cases e<;>first|exact h|(obtain ⟨C9,h1,h2⟩:=h;exact ⟨C9,h1,h2⟩)
theorem Fin.YG {α0:Type} {E1:α0→Env} {I1:α0→B6} {C:α0→Prop} (x0:α0)  (hC:C x0) (hs:Bn E (E1 x0)) (hI:∀M w,I.h M w→(I1 x0).h M w):
  Fin n E I (Exit.then (fun a w=>∃C9,C C9∧St n (E1 C9) (I1 C9) a w) Q) .normal:=fun _ _ hst=>⟨x0,hC,hst.sub hs hI⟩
theorem Tr.Gy {α0 α1:Type} (K:Env) (hK:Bn E K) (F:α0→α1→Env) (Ii:α0→α1→B6) (C:α0→α1→Prop) (μ:α0→α1→Nat) {c:Code} (HO:α0) (JB:α1)  (h0:C HO JB) (hs:Bn E (F HO JB)) (hI:∀M w,I.h M w→(Ii HO JB).h M w)
  (round:∀x0 x1,C x0 x1→Tr L n (F x0 x1++K) (Ii x0 x1) c (Exit.then (fun a w=>∃C9 Dq,(C C9 Dq∧μ C9 Dq<μ x0 x1)∧St n (F C9 Dq++K) (Ii C9 Dq) a w) Q)):Tr L n E I (.loop c) Q:=
 Tr.I4 K hK (fun y:α0×α1=>F y.1 y.2) (fun y=>Ii y.1 y.2) (fun y=>C y.1 y.2) (fun y=>μ y.1 y.2) (HO,JB) h0 hs hI fun y hy=>
  Tr.post (round y.1 y.2 hy) fun e a w h=>by
   cases e<;>first|exact h|(obtain ⟨C9,Dq,h1,h2⟩:=h;exact ⟨(C9,Dq),h1,h2⟩)
theorem Fin.JC {α0 α1:Type} {E1:α0→α1→Env} {I1:α0→α1→B6} {C:α0→α1→Prop} (x0:α0) (x1:α1)  (hC:C x0 x1) (hs:Bn E (E1 x0 x1)) (hI:∀M w,I.h M w→(I1 x0 x1).h M w):
  Fin n E I (Exit.then (fun a w=>∃C9 Dq,C C9 Dq∧St n (E1 C9 Dq) (I1 C9 Dq) a w) Q) .normal:=fun _ _ hst=>⟨x0,x1,hC,hst.sub hs hI⟩
theorem Tr.Ld {α0 α1:Type} (K:Env) (hK:Bn E K) (F:α0→α1→Value→Env) (Ii:α0→α1→Value→B6) (C:α0→α1→Prop) (μ:α0→α1→Nat) {c:Code} (HO:α0) (JB:α1) (Qc:Value) (h0:C HO JB) (hs:Bn E (F HO JB Qc)) (hI:∀M w,I.h M w→(Ii HO JB Qc).h M w)
  (round:∀x0 x1 v0,C x0 x1→Tr L n (F x0 x1 v0++K) (Ii x0 x1 v0) c (Exit.then (fun a w=>∃C9 Dq IJ,(C C9 Dq∧μ C9 Dq<μ x0 x1)∧St n (F C9 Dq IJ++K) (Ii C9 Dq IJ) a w) Q)):Tr L n E I (.loop c) Q:=
 Tr.I4 K hK (fun y:α0×α1×Value=>F y.1 y.2.1 y.2.2) (fun y=>Ii y.1 y.2.1 y.2.2) (fun y=>C y.1 y.2.1) (fun y=>μ y.1 y.2.1) (HO,JB,Qc) h0 hs hI fun y hy=>
  Tr.post (round y.1 y.2.1 y.2.2 hy) fun e a w h=>by
   cases e<;>first|exact h|(obtain ⟨C9,Dq,IJ,h1,h2⟩:=h;exact ⟨(C9,Dq,IJ),h1,h2⟩)
theorem Fin.Ci {α0 α1:Type} {E1:α0→α1→Value→Env} {I1:α0→α1→Value→B6} {C:α0→α1→Prop} (x0:α0) (x1:α1) (v0:Value) (hC:C x0 x1) (hs:Bn E (E1 x0 x1 v0)) (hI:∀M w,I.h M w→(I1 x0 x1 v0).h M w):
  Fin n E I (Exit.then (fun a w=>∃C9 Dq IJ,C C9 Dq∧St n (E1 C9 Dq IJ) (I1 C9 Dq IJ) a w) Q) .normal:=fun _ _ hst=>⟨x0,x1,v0,hC,hst.sub hs hI⟩
theorem Tr.Om {α0 α1 α2:Type} (K:Env) (hK:Bn E K) (F:α0→α1→α2→Env) (Ii:α0→α1→α2→B6) (C:α0→α1→α2→Prop) (μ:α0→α1→α2→Nat) {c:Code} (HO:α0) (JB:α1) (Ns:α2)  (h0:C HO JB Ns) (hs:Bn E (F HO JB Ns)) (hI:∀M w,I.h M w→(Ii HO JB Ns).h M w)
  (round:∀x0 x1 x2,C x0 x1 x2→Tr L n (F x0 x1 x2++K) (Ii x0 x1 x2) c (Exit.then (fun a w=>∃C9 Dq Fj,(C C9 Dq Fj∧μ C9 Dq Fj<μ x0 x1 x2)∧St n (F C9 Dq Fj++K) (Ii C9 Dq Fj) a w) Q)):Tr L n E I (.loop c) Q:=
 Tr.I4 K hK (fun y:α0×α1×α2=>F y.1 y.2.1 y.2.2) (fun y=>Ii y.1 y.2.1 y.2.2) (fun y=>C y.1 y.2.1 y.2.2) (fun y=>μ y.1 y.2.1 y.2.2) (HO,JB,Ns) h0 hs hI fun y hy=>
  Tr.post (round y.1 y.2.1 y.2.2 hy) fun e a w h=>by
   cases e<;>first|exact h|(obtain ⟨C9,Dq,Fj,h1,h2⟩:=h;exact ⟨(C9,Dq,Fj),h1,h2⟩)
theorem Fin.FY {α0 α1 α2:Type} {E1:α0→α1→α2→Env} {I1:α0→α1→α2→B6} {C:α0→α1→α2→Prop} (x0:α0) (x1:α1) (x2:α2)  (hC:C x0 x1 x2) (hs:Bn E (E1 x0 x1 x2)) (hI:∀M w,I.h M w→(I1 x0 x1 x2).h M w):
  Fin n E I (Exit.then (fun a w=>∃C9 Dq Fj,C C9 Dq Fj∧St n (E1 C9 Dq Fj) (I1 C9 Dq Fj) a w) Q) .normal:=fun _ _ hst=>⟨x0,x1,x2,hC,hst.sub hs hI⟩
theorem Tr.F4 {α0 α1 α2:Type} (K:Env) (hK:Bn E K) (F:α0→α1→α2→Value→Env) (Ii:α0→α1→α2→Value→B6) (C:α0→α1→α2→Prop) (μ:α0→α1→α2→Nat) {c:Code} (HO:α0) (JB:α1) (Ns:α2) (Qc:Value) (h0:C HO JB Ns) (hs:Bn E (F HO JB Ns Qc)) (hI:∀M w,I.h M w→(Ii HO JB Ns Qc).h M w)
  (round:∀x0 x1 x2 v0,C x0 x1 x2→Tr L n (F x0 x1 x2 v0++K) (Ii x0 x1 x2 v0) c (Exit.then (fun a w=>∃C9 Dq Fj IJ,(C C9 Dq Fj∧μ C9 Dq Fj<μ x0 x1 x2)∧St n (F C9 Dq Fj IJ++K) (Ii C9 Dq Fj IJ) a w) Q)):Tr L n E I (.loop c) Q:=
 Tr.I4 K hK (fun y:α0×α1×α2×Value=>F y.1 y.2.1 y.2.2.1 y.2.2.2) (fun y=>Ii y.1 y.2.1 y.2.2.1 y.2.2.2) (fun y=>C y.1 y.2.1 y.2.2.1) (fun y=>μ y.1 y.2.1 y.2.2.1) (HO,JB,Ns,Qc) h0 hs hI fun y hy=>
  Tr.post (round y.1 y.2.1 y.2.2.1 y.2.2.2 hy) fun e a w h=>by
   cases e<;>first|exact h|(obtain ⟨C9,Dq,Fj,IJ,h1,h2⟩:=h;exact ⟨(C9,Dq,Fj,IJ),h1,h2⟩)
theorem Fin.Dw {α0 α1 α2:Type} {E1:α0→α1→α2→Value→Env} {I1:α0→α1→α2→Value→B6} {C:α0→α1→α2→Prop} (x0:α0) (x1:α1) (x2:α2) (v0:Value) (hC:C x0 x1 x2) (hs:Bn E (E1 x0 x1 x2 v0)) (hI:∀M w,I.h M w→(I1 x0 x1 x2 v0).h M w):
  Fin n E I (Exit.then (fun a w=>∃C9 Dq Fj IJ,C C9 Dq Fj∧St n (E1 C9 Dq Fj IJ) (I1 C9 Dq Fj IJ) a w) Q) .normal:=fun _ _ hst=>⟨x0,x1,x2,v0,hC,hst.sub hs hI⟩
theorem Tr.U5 {α0 α1 α2 α3:Type} (K:Env) (hK:Bn E K) (F:α0→α1→α2→α3→Value→Env) (Ii:α0→α1→α2→α3→Value→B6) (C:α0→α1→α2→α3→Prop) (μ:α0→α1→α2→α3→Nat) {c:Code} (HO:α0) (JB:α1) (Ns:α2) (YH:α3) (Qc:Value) (h0:C HO JB Ns YH) (hs:Bn E (F HO JB Ns YH Qc)) (hI:∀M w,I.h M w→(Ii HO JB Ns YH Qc).h M w)
  (round:∀x0 x1 x2 x3 v0,C x0 x1 x2 x3→Tr L n (F x0 x1 x2 x3 v0++K) (Ii x0 x1 x2 x3 v0) c (Exit.then (fun a w=>∃C9 Dq Fj MZ IJ,(C C9 Dq Fj MZ∧μ C9 Dq Fj MZ<μ x0 x1 x2 x3)∧St n (F C9 Dq Fj MZ IJ++K) (Ii C9 Dq Fj MZ IJ) a w) Q)):Tr L n E I (.loop c) Q:=
 Tr.I4 K hK (fun y:α0×α1×α2×α3×Value=>F y.1 y.2.1 y.2.2.1 y.2.2.2.1 y.2.2.2.2) (fun y=>Ii y.1 y.2.1 y.2.2.1 y.2.2.2.1 y.2.2.2.2) (fun y=>C y.1 y.2.1 y.2.2.1 y.2.2.2.1) (fun y=>μ y.1 y.2.1 y.2.2.1 y.2.2.2.1) (HO,JB,Ns,YH,Qc) h0 hs hI fun y hy=>
  Tr.post (round y.1 y.2.1 y.2.2.1 y.2.2.2.1 y.2.2.2.2 hy) fun e a w h=>by
   cases e<;>first|exact h|(obtain ⟨C9,Dq,Fj,MZ,IJ,h1,h2⟩:=h;exact ⟨(C9,Dq,Fj,MZ,IJ),h1,h2⟩)
theorem Fin.YI {α0 α1 α2 α3:Type} {E1:α0→α1→α2→α3→Value→Env} {I1:α0→α1→α2→α3→Value→B6} {C:α0→α1→α2→α3→Prop} (x0:α0) (x1:α1) (x2:α2) (x3:α3) (v0:Value) (hC:C x0 x1 x2 x3) (hs:Bn E (E1 x0 x1 x2 x3 v0)) (hI:∀M w,I.h M w→(I1 x0 x1 x2 x3 v0).h M w):
  Fin n E I (Exit.then (fun a w=>∃C9 Dq Fj MZ IJ,C C9 Dq Fj MZ∧St n (E1 C9 Dq Fj MZ IJ) (I1 C9 Dq Fj MZ IJ) a w) Q) .normal:=fun _ _ hst=>⟨x0,x1,x2,x3,v0,hC,hst.sub hs hI⟩
theorem Tr.U6 {α0 α1 α2 α3:Type} (K:Env) (hK:Bn E K) (F:α0→α1→α2→α3→Value→Value→Env) (Ii:α0→α1→α2→α3→Value→Value→B6) (C:α0→α1→α2→α3→Prop) (μ:α0→α1→α2→α3→Nat) {c:Code} (HO:α0) (JB:α1) (Ns:α2) (YH:α3) (Qc:Value) (ot:Value) (h0:C HO JB Ns YH) (hs:Bn E (F HO JB Ns YH Qc ot)) (hI:∀M w,I.h M w→(Ii HO JB Ns YH Qc ot).h M w)
  (round:∀x0 x1 x2 x3 v0 v1,C x0 x1 x2 x3→Tr L n (F x0 x1 x2 x3 v0 v1++K) (Ii x0 x1 x2 x3 v0 v1) c (Exit.then (fun a w=>∃C9 Dq Fj MZ IJ v1',(C C9 Dq Fj MZ∧μ C9 Dq Fj MZ<μ x0 x1 x2 x3)∧St n (F C9 Dq Fj MZ IJ v1'++K) (Ii C9 Dq Fj MZ IJ v1') a w) Q)):Tr L n E I (.loop c) Q:=
 Tr.I4 K hK (fun y:α0×α1×α2×α3×Value×Value=>F y.1 y.2.1 y.2.2.1 y.2.2.2.1 y.2.2.2.2.1 y.2.2.2.2.2) (fun y=>Ii y.1 y.2.1 y.2.2.1 y.2.2.2.1 y.2.2.2.2.1 y.2.2.2.2.2) (fun y=>C y.1 y.2.1 y.2.2.1 y.2.2.2.1) (fun y=>μ y.1 y.2.1 y.2.2.1 y.2.2.2.1) (HO,JB,Ns,YH,Qc,ot) h0 hs hI fun y hy=>
  Tr.post (round y.1 y.2.1 y.2.2.1 y.2.2.2.1 y.2.2.2.2.1 y.2.2.2.2.2 hy) fun e a w h=>by
   cases e<;>first|exact h|(obtain ⟨C9,Dq,Fj,MZ,IJ,v1',h1,h2⟩:=h;exact ⟨(C9,Dq,Fj,MZ,IJ,v1'),h1,h2⟩)
theorem Fin.YJ {α0 α1 α2 α3:Type} {E1:α0→α1→α2→α3→Value→Value→Env} {I1:α0→α1→α2→α3→Value→Value→B6} {C:α0→α1→α2→α3→Prop} (x0:α0) (x1:α1) (x2:α2) (x3:α3) (v0:Value) (v1:Value) (hC:C x0 x1 x2 x3) (hs:Bn E (E1 x0 x1 x2 x3 v0 v1)) (hI:∀M w,I.h M w→(I1 x0 x1 x2 x3 v0 v1).h M w):
  Fin n E I (Exit.then (fun a w=>∃C9 Dq Fj MZ IJ v1',C C9 Dq Fj MZ∧St n (E1 C9 Dq Fj MZ IJ v1') (I1 C9 Dq Fj MZ IJ v1') a w) Q) .normal:=fun _ _ hst=>⟨x0,x1,x2,x3,v0,v1,hC,hst.sub hs hI⟩
end
structure DS where
 l:List Int
 at_:Nat
 h:at_≤l.length
 h2:l.length≤1000000000
def DS.val (s:DS) (n:Int):Int:=match s.l[s.at_]? with|some x=>x % n|none=>0
def DS.Bo (s:DS):DS:=if h:s.at_<s.l.length then ⟨s.l,s.at_+1,h,s.h2⟩ else s
theorem DS.Ca (s:DS) {n:Int} (hn:1≤n):0≤s.val n∧s.val n<n:=by
 unfold DS.val
 split
 · exact ⟨Int.emod_nonneg _ (by omega),Int.emod_lt_of_pos _ (by omega)⟩
 · omega
theorem DS.YK {s:DS} (h:s.l.length≤s.at_) (n:Int):s.val n=0:=by
 unfold DS.val;rw [List.getElem?_eq_none h]
theorem DS.YL {s:DS} (h:s.l.length≤s.at_):s.Bo=s:=by
 unfold DS.Bo;rw [dif_neg (by omega)]
theorem DS.bl {s:DS} {x:Int} (h:s.l[s.at_]? =some x) (n:Int):s.val n=x % n:=by
 unfold DS.val;rw [h]
theorem DS.bn {s:DS} (h:s.at_<s.l.length):s.Bo=⟨s.l,s.at_+1,h,s.h2⟩:=by
 unfold DS.Bo;rw [dif_pos h]
def Jr (s:DS):List Pr:=[slice 1 (s.l.map fun n=>[int n]),int ((s.at_:Nat):Int)]
def On (T:TypeId) (b:Nat) (s:DS):Ae:=AB true b T (Jr s)
def IK (T:TypeId) (b:Nat):Ae:=I9 true b T (fun _:DS=>True) Jr
def DS.of (s:DS) (l:List Int):Int:=(l[(s.val l.length).toNat]?).getD 0
theorem DS.Nt (s:DS) {l:List Int} (h:l≠[]):s.of l∈l:=by
 have h0:1≤(l.length:Int):=by
  have:=List.length_pos_iff.2 h
  omega
 have:=s.Ca h0
 unfold DS.of
 rw [List.getElem?_eq_getElem (by omega)]
 exact List.getElem_mem _
section
variable {P:Program} {L:Lg P} {n:Fm} {fz:Nat} {E:Env} {M0:Av} {w0:World} {S:Nat→Prop} {rs:List Ae}
theorem Tr.SD {Q:Exit→Act→World→Prop} {c:Code} (i:Nat) {T:TypeId} {b:Nat} (hi:rs[i]? =some (IK T b)) (k:∀s,Tr L n E (Hp M0 w0 S (rs.set i (On T b s))) c Q):Tr L n E (Hp M0 w0 S rs) c Q:=
 Tr.iJ i hi fun s _=>k s
theorem Fin.SD {Q:Exit→Act→World→Prop} {e:Exit} (i:Nat) {T:TypeId} {b:Nat} (hi:rs[i]? =some (IK T b)) (k:∀s,Fin n E (Hp M0 w0 S (rs.set i (On T b s))) Q e):Fin n E (Hp M0 w0 S rs) Q e:=by
 rintro a w ⟨M,h1,h2,h3,h4⟩
 have h4:Al M0 w0 S rs M w:=h4
 obtain ⟨x,hx,hh⟩:=(h4.hold _ (List.mem_of_getElem? hi)).1
 exact k x a w ⟨M,h1,h2,h3,h4.CU hi rfl rfl hh⟩
theorem Fin.IL {Q:Exit→Act→World→Prop} {e:Exit} (i:Nat) {T:TypeId} {b:Nat} (s:DS) {ps:List Pr} (hi:rs[i]? =some (AB true b T ps)) (hp:ps=Jr s) (k:Fin n E (Hp M0 w0 S (rs.set i (IK T b))) Q e):Fin n E (Hp M0 w0 S rs) Q e:=
 Fin.Jq i (fun _=>True) Jr s trivial hi hp k
theorem Tr.IL {Q:Exit→Act→World→Prop} {c:Code} (i:Nat) {T:TypeId} {b:Nat} (s:DS) {ps:List Pr} (hi:rs[i]? =some (AB true b T ps)) (hp:ps=Jr s) (k:Tr L n E (Hp M0 w0 S (rs.set i (IK T b))) c Q):Tr L n E (Hp M0 w0 S rs) c Q:=
 Tr.Jq i (fun _=>True) Jr s trivial hi hp k
theorem TO.TW {ops:Array Oper} {l:List Oper} {Q:Exit→Act→World→Prop} (s j:Nat) {v:Value} {f:Value→Ae} (g:Nat→Ae) (hs:E.lookup s=some (Ab v (Cp.ex fun b=>ptr b 0))) (hi:rs[j]? =some (f v)) (hf:∀b,f (.pointer (some ⟨b,0,none⟩))=g b)
  (k:∀b,TO P n ops l ((s,ptr b 0)::E) (Hp M0 w0 S (rs.set j (g b))) Q):TO P n ops l E (Hp M0 w0 S rs) Q:=by
 intro k0 hl a w hst
 obtain ⟨M,h1,h2,he,h4⟩:=hst
 obtain ⟨h5,b,h6⟩:=he s _ hs
 have hv:v= .pointer (some ⟨b,0,none⟩):=by rw [←h5];exact h6
 have hj:rs.set j (g b)=rs:=by
  have hjl:j<rs.length:=by rcases Nat.lt_or_ge j rs.length with h|h;exact h;rw [List.getElem?_eq_none h] at hi;cases hi
  rw [←hf b,←hv]
  rw [List.getElem?_eq_getElem hjl] at hi
  simp at hi
  rw [←hi,List.set_getElem_self]
 refine k b k0 hl a w ⟨M,h1,h2,?_,by rw [hj];exact h4⟩
 intro t q hq
 simp only [List.lookup] at hq
 by_cases ht:t=s
 · subst ht;simp at hq;subst hq;exact h6
 · rw [show (t==s)=false by simpa using ht] at hq;exact he t q hq
def Le (r:ResultVar) (a:Act):Sem Value:=match r with| .tmp t=>pure (a.tmps.getD t undef)| .cell c t=>do loadVar t (←asAddr (a.tmps.getD c undef))
def BK (P:Program) (E:Env) (rs:List Ae) (r:ResultVar) (p:Pr):Prop:=∀(M:Av) (w:World) (a:Act),D9 M w E a→(∀q∈rs,q.h M w)→∃v,(Le r a).run P w= .ok v w∧p.h M w v
theorem BK.tmp {t:Tmp} {q p:Pr} (h:E.lookup t=some q) (hl:Pr.le q p):BK P E rs (.tmp t) p:=fun _ _ _ he _=>⟨_,rfl,hl _ _ _ (he _ _ h)⟩
theorem BK.cell (i:Nat) {c:Tmp} {t T:TypeId} {b m:Nat} {new:Bool} {ps:List Pr} {p:Pr} (h:E.lookup c=some (ptr b 0)) (hi:rs[i]? =some (AB new b T ps)) (ht:EV P t=true) (hz:Af P t=some m) (hm:ps.length=m) (hl:Pr.le (agg ps) p):BK P E rs (.cell c t) p:=by
 intro M w a he hr
 obtain ⟨v,h1,h2⟩:=Uz ht hz hm (hr _ (List.mem_of_getElem? hi))
 refine ⟨v,?_,hl _ _ _ h2⟩
 have hc:a.tmps.getD c undef= .pointer (some ⟨b,0,none⟩):=he _ _ h
 unfold Le
 simp only [hc,asAddr]
 simpa [Sem.run_bind] using h1
theorem IM (g:Func) (a:Act):results g a.tmps=(do let vs ←g.results.mapM (fun r=>Le r a);pure (if h:vs.size=1 then vs[0] else .tuple vs)):=by
 have:(fun r:ResultVar=>Le r a)=(fun| .tmp t=>pure (a.tmps.getD t undef)| .cell c t=>do loadVar t (←asAddr (a.tmps.getD c undef))):=by
  funext r;cases r<;>rfl
 rw [this];rfl
theorem results1 {g:Func} {r:ResultVar} {a:Act} {w:World} {v:Value} (hr:g.results= #[r]) (h:(Le r a).run P w= .ok v w):(results g a.tmps).run P w= .ok v w:=by
 rw [IM,hr];simp [Sem.run_bind,h]
theorem results2 {g:Func} {r r':ResultVar} {a:Act} {w:World} {v v':Value} (hr:g.results= #[r,r']) (h:(Le r a).run P w= .ok v w) (h':(Le r' a).run P w= .ok v' w):(results g a.tmps).run P w= .ok (.tuple #[v,v']) w:=by
 rw [IM,hr];simp [Sem.run_bind,h,h']
theorem Al.Nu {M:Av} {w:World}:∀{pre:List Ae},Al M0 w0 S (pre++rs) M w→Al M0 w0 S rs M w
 |[],h=>h
 |_::_,h=>Al.Nu h.I8
variable {g:Func} {M1:Av} {w1:World}
theorem Fin.Cm {r:ResultVar} {p q:Pr} (hr:g.results= #[r]) (h:BK P E rs r q) (hl:Pr.le q p):Fin ⟨fz,[]⟩ E (Hp M0 w0 OR rs) (bodyPost P g (QM M0 w0 p)) .ret:=by
 rintro a w ⟨M,_,hd,he,hi⟩
 obtain ⟨v,hv,hp⟩:=h M w a he (fun q hq=>(hi.hold q hq).1)
 obtain ⟨h1,h2⟩:=DA.Ht M0 w0 M w hi
 exact ⟨hd,v,results1 hr hv,_,rfl,p.st _ _ _ _ _ (Ext.less h1) (hl _ _ _ hp),h2⟩
theorem Fin.Hx {r r':ResultVar} {p q q':Pr} (hr:g.results= #[r,r']) (h:BK P E rs r q) (h':BK P E rs r' q') (hl:Pr.le (Iv [q,q']) p):Fin ⟨fz,[]⟩ E (Hp M0 w0 OR rs) (bodyPost P g (QM M0 w0 p)) .ret:=by
 rintro a w ⟨M,_,hd,he,hi⟩
 obtain ⟨v,hv,hp⟩:=h M w a he (fun q hq=>(hi.hold q hq).1)
 obtain ⟨v',ou,hp'⟩:=h' M w a he (fun q hq=>(hi.hold q hq).1)
 obtain ⟨h1,h2⟩:=DA.Ht M0 w0 M w hi
 exact ⟨hd,_,results2 hr hv ou,_,rfl,p.st _ _ _ _ _ (Ext.less h1) (hl _ _ _ ⟨[_,_],rfl,hp,hp',trivial⟩),h2⟩
theorem Fin.F5 (pre:List Ae) {r:ResultVar} {R:Ae} {R':Value→Ae} {p q:Pr} (hr:g.results= #[r]) (h:BK P E (pre++R::AZ M1 w1::rs) r q) (hl:Pr.le q p) (hR:∀M w v,q.h M w v→R' v=R):
  Fin ⟨fz,[]⟩ E (Hp M0 w0 S (pre++R::AZ M1 w1::rs)) (bodyPost P g (LW M0 w0 S rs M1 w1 p R')) .ret:=by
 rintro a w ⟨M,_,hd,he,hi⟩
 obtain ⟨v,hv,hp⟩:=h M w a he (fun q hq=>(hi.hold q hq).1)
 obtain ⟨h1,h2⟩:=YB (Al.Nu hi)
 exact ⟨hd,v,results1 hr hv,_,M,rfl,hl _ _ _ hp,h1,by rw [hR _ _ _ hp];exact h2⟩
theorem Fin.Oo (pre:List Ae) {r r':ResultVar} {R:Ae} {p q q':Pr} (hr:g.results= #[r,r']) (h:BK P E (pre++R::AZ M1 w1::rs) r q) (h':BK P E (pre++R::AZ M1 w1::rs) r' q') (hl:Pr.le (Iv [q,q']) p):
  Fin ⟨fz,[]⟩ E (Hp M0 w0 S (pre++R::AZ M1 w1::rs)) (bodyPost P g (LW M0 w0 S rs M1 w1 p (fun _=>R))) .ret:=by
 rintro a w ⟨M,_,hd,he,hi⟩
 obtain ⟨v,hv,hp⟩:=h M w a he (fun q hq=>(hi.hold q hq).1)
 obtain ⟨v',ou,hp'⟩:=h' M w a he (fun q hq=>(hi.hold q hq).1)
 obtain ⟨h1,h2⟩:=YB (Al.Nu hi)
 exact ⟨hd,_,results2 hr hv ou,_,M,rfl,hl _ _ _ ⟨[_,_],rfl,hp,hp',trivial⟩,h1,h2⟩
theorem Bp {α:Type} {p:α→Pr} {q:Pr} (x:α) (h:Pr.le q (p x)):Pr.le q (Cp.ex p):=fun M w v hv=>⟨x,h M w v hv⟩
theorem Dx {φ:Prop} {p q:Pr} (hφ:φ) (h:Pr.le q p):Pr.le q (fact φ p):=fun M w v hv=>⟨hφ,h M w v hv⟩
end
section
variable {P:Program} {L:Lg P} {n:Fm} {fz:Nat} {E:Env} {M0:Av} {w0:World} {S:Nat→Prop} {rs:List SR} {o:Oper}
theorem HP {t:TypeId} {x:Operand} {q:Tmp} {j:Nat} {new:Bool} {b off:Nat} {T:TypeId} {ps:List Pr} {p:Pr} [One p] (hg:o.guard=none) (hd:o.dst=none) (ho:o.op= .store t x (.tmp q)) (hx:VL E x (ptr b off)) (hy:E.lookup q=some p)
  (hz:Af P t=some 1) (hl:off+1≤ps.length):C5 P M0 w0 S n j (SR.c (AB new b T ps)) ⟨q,fun v=>AB new b T (ps.take off++[Ab v p]++ps.drop (off+1))⟩ o E any:=by
 refine ⟨hg,fun M w a rs hsz he hI hj=> ?_⟩
 have h1:a.eval x= .pointer (some ⟨b,off,none⟩):=hx.ev he (by simp [ho,Op.operands])
 have hv:VL E (.tmp q) p:=⟨_,hy,Pr.le_refl _⟩
 have hp:=hv.ev he (show (Operand.tmp q)∈o.op.operands.toList by simp [ho,Op.operands])
 obtain ⟨h2,h3⟩:=(VL.le hv (AD p)).ev he (show (Operand.tmp q)∈o.op.operands.toList by simp [ho,Op.operands])
 obtain ⟨⟨_,cs,h4,h5,h6⟩,_⟩:=hI.hold _ (List.mem_of_getElem? hj)
 have g_:=h5.length
 have Z9:=h2.length
 have hone:(a.eval (.tmp q)).cells= #[a.eval (.tmp q)]:=(One.one (p:=p) M w _ hp).1
 have h2':HL M w [Ab (a.eval (.tmp q)) p] (a.eval (.tmp q)).cells.toList:=by rw [hone];exact ⟨⟨rfl,hp⟩,trivial⟩
 have hcells:(a.eval (.tmp q)).cells.size=1:=by rw [hone];rfl
 have hrun:(storeCells ⟨b,off,none⟩ (a.eval (.tmp q)).cells.toList 0).run P w= .ok () (w.setRow b (cs.take off++(a.eval (.tmp q)).cells.toList++cs.drop (off+1)).toArray):=by
  have:=run_storeCells_at (P:=P) b off T (a.eval (.tmp q)).cells.toList 0 cs.toArray w h4 (by simp [hcells];omega) h3
  simpa [hcells] using this
 have DM:(execOp a.eval o).run P w= .ok .skip (w.setRow b (cs.take off++(a.eval (.tmp q)).cells.toList++cs.drop (off+1)).toArray):=by
  simp [execOp,ho,h1,Instr.storeAt,Instr.sureAddr,storeVar,Bf hz,hcells,hrun]
 rw [DM]
 obtain ⟨h7, h8⟩ := Al.write (qs := ps.take off ++ [Ab (a.eval (.tmp q)) p] ++ ps.drop (off + 1)) (cs := cs.take off ++ (a.eval (.tmp q)).cells.toList ++ cs.drop (off + 1)) hI hj ((((h5.take off).app h2')).app (h5.drop (off + 1)))
  (fun c hc=>by
   simp only [List.mem_append] at hc
   rcases hc with (hc|hc)|hc
   · exact h6 c (List.mem_of_mem_take hc)
   · exact h3 c hc
   · exact h6 c (List.mem_of_mem_drop hc))
 refine ⟨M,trivial,h8,?_⟩
 have hput:SR.at_ (a.put o.dst undef) ⟨q,fun v=>AB new b T (ps.take off++[Ab v p]++ps.drop (off+1))⟩=AB new b T (ps.take off++[Ab (a.eval (.tmp q)) p]++ps.drop (off+1)):=by rw [hd];rfl
 rw [hput];exact h7
theorem U7 {j s:Nat} {f:Value→Ae} (hR:rs[j]? =some ⟨s,f⟩) (a:Act):(rs.set j (SR.c (f (a.tmps.getD s undef)))).map (·.at_ a)=rs.map (·.at_ a):=by
 rw [List.map_set]
 apply List.ext_getElem?
 intro i
 rw [List.getElem?_set]
 by_cases hij:j=i
 ·
  subst hij
  rw [if_pos rfl]
  split
  · rw [List.getElem?_map,hR];rfl
  ·
   rename_i hge
   rw [List.getElem?_eq_none (by omega)]
 · rw [if_neg hij]
theorem BE.SE {Q:Exit→Act→World→Prop} (j i s:Nat) {f g:Value→Ae} {p:Pr} (hR:rs[j]? =some ⟨s,f⟩) (hR':rs[i]? =some ⟨s,g⟩) (hij:j≠i) (hs:E.lookup s=some p) (k:∀v,BE n M0 w0 S ((s,Ab v p)::E) ((rs.set j (SR.c (f v))).set i (SR.c (g v))) Q):BE n M0 w0 S E rs Q:=by
 rintro a w ⟨M,h1,h2,h3,h4⟩
 refine k (a.tmps.getD s undef) a w ⟨M,h1,h2,?_,?_⟩
 ·
  intro t q hq
  simp only [List.lookup] at hq
  by_cases ht:t=s
  · subst ht;simp only [beq_self_eq_true,Option.some.injEq] at hq;subst hq;exact ⟨rfl,h3 t p hs⟩
  · rw [show (t==s)=false by simpa using ht] at hq;exact h3 t q hq
 · rw [U7 (rs:=rs.set j (SR.c (f (a.tmps.getD s undef)))) (j:=i) (s:=s) (f:=g) (by rw [List.getElem?_set,if_neg hij];exact hR') a,U7 hR a];exact h4
end
section
variable {P:Program} {L:Lg P} {n:Fm} {fz:Nat} {E:Env} {M0:Av} {w0:World} {S:Nat→Prop} {rs:List Ae}
theorem St.Iw (j:Nat) {new:Bool} {b:Nat} {T:TypeId} {ps qs:List Pr} (hi:rs[j]? =some (AB new b T ps)) (h:LX ps qs) {a:Act} {w:World} (hs:St n E (Hp M0 w0 S rs) a w):St n E (Hp M0 w0 S (rs.set j (AB new b T qs))) a w:=by
 obtain ⟨M,h1,h2,h3,h4⟩:=hs
 have h4:Al M0 w0 S rs M w:=h4
 obtain ⟨h5,cs,h6,h7,h8⟩:=(h4.hold _ (List.mem_of_getElem? hi)).1
 exact ⟨M,h1,h2,h3,h4.CU hi rfl rfl ⟨h5,cs,h6,h.hl h7,h8⟩⟩
theorem Tr.Iw {Q:Exit→Act→World→Prop} {c:Code} (j:Nat) {new:Bool} {b:Nat} {T:TypeId} {ps:List Pr} (qs:List Pr) (hi:rs[j]? =some (AB new b T ps)) (h:LX ps qs) (k:Tr L n E (Hp M0 w0 S (rs.set j (AB new b T qs))) c Q):Tr L n E (Hp M0 w0 S rs) c Q:=
 Tr.conv (fun _ _ hs=>hs.Iw j hi h) k
theorem Fin.Iw {Q:Exit→Act→World→Prop} {e:Exit} (j:Nat) {new:Bool} {b:Nat} {T:TypeId} {ps:List Pr} (qs:List Pr) (hi:rs[j]? =some (AB new b T ps)) (h:LX ps qs) (k:Fin n E (Hp M0 w0 S (rs.set j (AB new b T qs))) Q e):Fin n E (Hp M0 w0 S rs) Q e:=
 Fin.conv (fun _ _ hs=>hs.Iw j hi h) k
end
section
variable {P:Program} {L:Lg P} {n:Fm} {fz:Nat} {E:Env} {M0:Av} {w0:World} {S:Nat→Prop} {rs:List Ae}
abbrev Nv (m b:Nat):Value:= .slice (some ⟨b,0,none⟩) m m
theorem BZ {I:B6} {o:Oper} {t e:TypeId} {x y:Operand} {k:IntKind} {i:Int} {len cap sz b off:Nat} (ho:o.op= .indexAddr t x y) (ht:P.underlying t=some (.slice e)) (hz:Af P e=some sz) (hx:VL E x (is (.slice (some ⟨b,off,none⟩) len cap))) (hy:VL E y (is (.int k i)))
  (h0:0≤i) (hl:i<len):AR P I o E (ptr b (off+i.toNat*sz)):=
 AR.same fun M w a he _=>by
  have h1:a.eval x=_:=hx.ev he (by simp [ho,Op.operands])
  have h5:a.eval y= .int k i:=hy.ev he (by simp [ho,Op.operands])
  refine ⟨_,?_,rfl⟩
  simp [execOp,ho,h1,h5,Instr.indexAt,asIntOf,run_underlying ht,Bf hz,h0,hl,EC]
theorem Tr.perm {Q:Exit→Act→World→Prop} {c:Code} {rs':List Ae} (hp:rs.Perm rs') (k:Tr L n E (Hp M0 w0 S rs') c Q):Tr L n E (Hp M0 w0 S rs) c Q:=
 Tr.conv (fun _ _ ⟨M,h1,h2,h3,h4⟩=>⟨M,h1,h2,h3,Al.perm hp h4⟩) k
theorem Fin.perm {Q:Exit→Act→World→Prop} {ex:Exit} {rs':List Ae} (hp:rs.Perm rs') (k:Fin n E (Hp M0 w0 S rs') Q ex):Fin n E (Hp M0 w0 S rs) Q ex:=
 Fin.conv (fun _ _ ⟨M,h1,h2,h3,h4⟩=>⟨M,h1,h2,h3,Al.perm hp h4⟩) k
end
end Cp
namespace Go.Proofs.YtppdobdifkefcaaGreatDoor
open Go Cp
theorem mixed:Tryz.prog.follows .mixedOrders=true:=by kernel_rfl
theorem sz1:Af Tryz.prog 1=some 1:=by kernel_rfl
theorem z1:A7 Tryz.prog 1=some [.nilFunc]:=by kernel_rfl
theorem sz2:Af Tryz.prog 2=some 1:=by kernel_rfl
theorem z2:A7 Tryz.prog 2=some [.int .i64 0]:=by kernel_rfl
theorem Ce:Af Tryz.prog 3=some 1:=by kernel_rfl
theorem DC:Dl Tryz.prog 3=true:=by kernel_rfl
theorem U8:Bb Tryz.prog 3=some 8:=by kernel_rfl
theorem zo3:([.int .i64 0]:List Value).all (·.oneCell')=true:=by kernel_rfl
theorem z3:A7 Tryz.prog 3=some [.int .i64 0]:=by kernel_rfl
theorem ow:Dl Tryz.prog 4=true:=by kernel_rfl
theorem Iy:Af Tryz.prog 5=some 1:=by kernel_rfl
theorem iP:Dl Tryz.prog 5=true:=by kernel_rfl
theorem SF:Bb Tryz.prog 5=some 1:=by kernel_rfl
theorem zo5:([.int .u8 0]:List Value).all (·.oneCell')=true:=by kernel_rfl
theorem z5:A7 Tryz.prog 5=some [.int .u8 0]:=by kernel_rfl
theorem z6:A7 Tryz.prog 6=some [.int .u8 0]:=by kernel_rfl
theorem KV:Af Tryz.prog 9=some 1:=by kernel_rfl
theorem Ku:Dl Tryz.prog 9=true:=by kernel_rfl
theorem ox:Bb Tryz.prog 9=some 16:=by kernel_rfl
theorem zo9:([.string (ByteArray.mk #[])]:List Value).all (·.oneCell')=true:=by kernel_rfl
theorem z9:A7 Tryz.prog 9=some [.string (ByteArray.mk #[])]:=by kernel_rfl
theorem z12:A7 Tryz.prog 12=some [.int .u64 0]:=by kernel_rfl
theorem z13:A7 Tryz.prog 13=some [.string (ByteArray.mk #[]),.int .u64 0]:=by kernel_rfl
theorem oy:A7 Tryz.prog 18=some [.pointer none]:=by kernel_rfl
theorem z20:A7 Tryz.prog 20=some [.nilIface]:=by kernel_rfl
theorem YM:Af Tryz.prog 22=some 1:=by kernel_rfl
theorem ES:Dl Tryz.prog 22=true:=by kernel_rfl
theorem z22:A7 Tryz.prog 22=some [.slice none 0 0]:=by kernel_rfl
theorem z24:A7 Tryz.prog 24=some [.nilFunc]:=by kernel_rfl
theorem iQ:Af Tryz.prog 27=some 1:=by kernel_rfl
theorem Oq:Dl Tryz.prog 27=true:=by kernel_rfl
theorem iR:Af Tryz.prog 28=some 1:=by kernel_rfl
theorem SG:Dl Tryz.prog 28=true:=by kernel_rfl
theorem iS:Af Tryz.prog 29=some 1:=by kernel_rfl
theorem U9:Dl Tryz.prog 29=true:=by kernel_rfl
theorem Gp:Af Tryz.prog 31=some 3:=by kernel_rfl
theorem E7:EV Tryz.prog 31=true:=by kernel_rfl
theorem bp:((List.replicate 3 (.slice none 0 0)):List Value).all (·.oneCell')=true:=by kernel_rfl
theorem z31:A7 Tryz.prog 31=some (List.replicate 3 (.slice none 0 0)):=by kernel_rfl
theorem IP:AP Tryz.prog 31 0=some 0:=by kernel_rfl
theorem Js:AP Tryz.prog 31 1=some 1:=by kernel_rfl
theorem Lf:AP Tryz.prog 31 2=some 2:=by kernel_rfl
theorem iT:Dl Tryz.prog 33=true:=by kernel_rfl
theorem Jt:Af Tryz.prog 35=some 3:=by kernel_rfl
theorem Ge:EV Tryz.prog 35=true:=by kernel_rfl
theorem oz:∀ps,Tryz.prog.built 35 ps=Instr.fill (fun i=>(#[(0,1),(1,1),(2,1)]:Array (Nat×Nat))[i]?) ((List.replicate 3 (.slice none 0 0)):List Value).toArray ps:=by intro ps;kernel_rfl
theorem bq:((List.replicate 3 (.slice none 0 0)):List Value).all (·.oneCell')=true:=by kernel_rfl
theorem z35:A7 Tryz.prog 35=some (List.replicate 3 (.slice none 0 0)):=by kernel_rfl
theorem bt:AP Tryz.prog 35 0=some 0:=by kernel_rfl
theorem U_:AP Tryz.prog 35 1=some 1:=by kernel_rfl
theorem bu:AP Tryz.prog 35 2=some 2:=by kernel_rfl
theorem iU:Af Tryz.prog 37=some 1:=by kernel_rfl
theorem SH:Dl Tryz.prog 37=true:=by kernel_rfl
theorem VA:Dl Tryz.prog 39=true:=by kernel_rfl
theorem Di:Af Tryz.prog 42=some 3:=by kernel_rfl
theorem ET:EV Tryz.prog 42=true:=by kernel_rfl
theorem TX:∀ps,Tryz.prog.built 42 ps=Instr.fill (fun i=>(#[(0,1),(1,1),(2,1)]:Array (Nat×Nat))[i]?) ((List.replicate 3 (.slice none 0 0)):List Value).toArray ps:=by intro ps;kernel_rfl
theorem Gz:((List.replicate 3 (.slice none 0 0)):List Value).all (·.oneCell')=true:=by kernel_rfl
theorem z42:A7 Tryz.prog 42=some (List.replicate 3 (.slice none 0 0)):=by kernel_rfl
theorem Ju:AP Tryz.prog 42 0=some 0:=by kernel_rfl
theorem Qd:AP Tryz.prog 42 1=some 1:=by kernel_rfl
theorem EF:AP Tryz.prog 42 2=some 2:=by kernel_rfl
theorem Er:Af Tryz.prog 49=some 2:=by kernel_rfl
theorem KW:EV Tryz.prog 49=true:=by kernel_rfl
theorem bw:Bb Tryz.prog 49=some 16:=by kernel_rfl
theorem o9:∀ps,Tryz.prog.built 49 ps=Instr.fill (fun i=>(#[(0,1),(1,1)]:Array (Nat×Nat))[i]?) ((List.replicate 2 (.int .i64 0)):List Value).toArray ps:=by intro ps;kernel_rfl
theorem Ot:((List.replicate 2 (.int .i64 0)):List Value).all (·.oneCell')=true:=by kernel_rfl
theorem z49:A7 Tryz.prog 49=some (List.replicate 2 (.int .i64 0)):=by kernel_rfl
theorem Lh:AP Tryz.prog 49 0=some 0:=by kernel_rfl
theorem Li:AP Tryz.prog 49 1=some 1:=by kernel_rfl
theorem z51:A7 Tryz.prog 51=some [.nilFunc]:=by kernel_rfl
theorem Cn:Af Tryz.prog 57=some 2:=by kernel_rfl
theorem Bj:EV Tryz.prog 57=true:=by kernel_rfl
theorem bz:∀ps,Tryz.prog.built 57 ps=Instr.fill (fun i=>(#[(0,1),(1,1)]:Array (Nat×Nat))[i]?) ((List.replicate 2 (.int .i64 0)):List Value).toArray ps:=by intro ps;kernel_rfl
theorem DD:((List.replicate 2 (.int .i64 0)):List Value).all (·.oneCell')=true:=by kernel_rfl
theorem HQ:A7 Tryz.prog 57=some (List.replicate 2 (.int .i64 0)):=by kernel_rfl
theorem b_:AP Tryz.prog 57 0=some 0:=by kernel_rfl
theorem cA:AP Tryz.prog 57 1=some 1:=by kernel_rfl
theorem iV:Af Tryz.prog 58=some 1:=by kernel_rfl
theorem iW:Dl Tryz.prog 58=true:=by kernel_rfl
theorem Kv:Af Tryz.prog 60=some 4:=by kernel_rfl
theorem Ou:EV Tryz.prog 60=true:=by kernel_rfl
theorem iX:∀ps,Tryz.prog.built 60 ps=Instr.fill (fun i=>(#[(0,2),(2,1),(3,1)]:Array (Nat×Nat))[i]?) ([.int .i64 0,.int .i64 0,.int .i64 0,.slice none 0 0]:List Value).toArray ps:=by intro ps;kernel_rfl
theorem Qe:([.int .i64 0,.int .i64 0,.int .i64 0,.slice none 0 0]:List Value).all (·.oneCell')=true:=by kernel_rfl
theorem cB:A7 Tryz.prog 60=some [.int .i64 0,.int .i64 0,.int .i64 0,.slice none 0 0]:=by kernel_rfl
theorem cC:AP Tryz.prog 60 0=some 0:=by kernel_rfl
theorem cE:AP Tryz.prog 60 1=some 2:=by kernel_rfl
theorem VB:AP Tryz.prog 60 2=some 3:=by kernel_rfl
theorem Ct:Af Tryz.prog 62=some 8:=by kernel_rfl
theorem G0:EV Tryz.prog 62=true:=by kernel_rfl
theorem Ov:Bb Tryz.prog 62=some 80:=by kernel_rfl
theorem TY:∀ps,Tryz.prog.built 62 ps=Instr.fill (fun i=>(#[(0,1),(1,1),(2,1),(3,1),(4,4)]:Array (Nat×Nat))[i]?) ([.int .i64 0,.int .i64 0,.int .i64 0,.int .i64 0,.int .i64 0,.int .i64 0,.int .i64 0,.slice none 0 0]:List Value).toArray ps:=by intro ps;kernel_rfl
theorem JD:([.int .i64 0,.int .i64 0,.int .i64 0,.int .i64 0,.int .i64 0,.int .i64 0,.int .i64 0,.slice none 0 0]:List Value).all (·.oneCell')=true:=by kernel_rfl
theorem Lj:A7 Tryz.prog 62=some [.int .i64 0,.int .i64 0,.int .i64 0,.int .i64 0,.int .i64 0,.int .i64 0,.int .i64 0,.slice none 0 0]:=by kernel_rfl
theorem VC:AP Tryz.prog 62 0=some 0:=by kernel_rfl
theorem cF:AP Tryz.prog 62 1=some 1:=by kernel_rfl
theorem cH:AP Tryz.prog 62 2=some 2:=by kernel_rfl
theorem cI:AP Tryz.prog 62 4=some 4:=by kernel_rfl
theorem o_:∀ps,Tryz.prog.built 66 ps=Instr.fill (fun i=>(#[(0,1),(1,1)]:Array (Nat×Nat))[i]?) ([.slice none 0 0,.int .i64 0]:List Value).toArray ps:=by intro ps;kernel_rfl
theorem pE:([.slice none 0 0,.int .i64 0]:List Value).all (·.oneCell')=true:=by kernel_rfl
theorem cJ:AP Tryz.prog 66 0=some 0:=by kernel_rfl
theorem cL:AP Tryz.prog 66 1=some 1:=by kernel_rfl
theorem iY:Af Tryz.prog 67=some 1:=by kernel_rfl
theorem iZ:Dl Tryz.prog 67=true:=by kernel_rfl
theorem pF:Af Tryz.prog 71=some 1:=by kernel_rfl
theorem ia:Dl Tryz.prog 71=true:=by kernel_rfl
theorem pG:([.nilFunc]:List Value).all (·.oneCell')=true:=by kernel_rfl
theorem z71:A7 Tryz.prog 71=some [.nilFunc]:=by kernel_rfl
theorem ig:Af Tryz.prog 72=some 1:=by kernel_rfl
theorem aG:Dl Tryz.prog 72=true:=by kernel_rfl
theorem F6:Af Tryz.prog 74=some 9:=by kernel_rfl
theorem Mt:EV Tryz.prog 74=true:=by kernel_rfl
theorem ij:Bb Tryz.prog 74=some 144:=by kernel_rfl
theorem pH:∀ps,Tryz.prog.built 74 ps=Instr.fill (fun i=>(#[(0,1),(1,1),(2,1),(3,1),(4,1),(5,1),(6,1),(7,1),(8,1)]:Array (Nat×Nat))[i]?) ([.string (ByteArray.mk #[]),.int .i64 0,.int .i64 0,.slice none 0 0,.bool false,.slice none 0 0,.slice none 0 0,.slice none 0 0,.bool false]:List Value).toArray ps:=by intro ps;kernel_rfl
theorem YN:([.string (ByteArray.mk #[]),.int .i64 0,.int .i64 0,.slice none 0 0,.bool false,.slice none 0 0,.slice none 0 0,.slice none 0 0,.bool false]:List Value).all (·.oneCell')=true:=by kernel_rfl
theorem cM:A7 Tryz.prog 74=some [.string (ByteArray.mk #[]),.int .i64 0,.int .i64 0,.slice none 0 0,.bool false,.slice none 0 0,.slice none 0 0,.slice none 0 0,.bool false]:=by kernel_rfl
theorem VD:AP Tryz.prog 74 0=some 0:=by kernel_rfl
theorem cN:AP Tryz.prog 74 1=some 1:=by kernel_rfl
theorem Qf:AP Tryz.prog 74 2=some 2:=by kernel_rfl
theorem Ll:AP Tryz.prog 74 3=some 3:=by kernel_rfl
theorem Nw:AP Tryz.prog 74 5=some 5:=by kernel_rfl
theorem cO:AP Tryz.prog 74 6=some 6:=by kernel_rfl
theorem cQ:AP Tryz.prog 74 7=some 7:=by kernel_rfl
theorem Hl:Af Tryz.prog 78=some 2:=by kernel_rfl
theorem VE:EV Tryz.prog 78=true:=by kernel_rfl
theorem pI:Bb Tryz.prog 78=some 16:=by kernel_rfl
theorem iq:∀ps,Tryz.prog.built 78 ps=Instr.fill (fun i=>(#[(0,1),(1,1)]:Array (Nat×Nat))[i]?) ((List.replicate 2 (.int .i64 0)):List Value).toArray ps:=by intro ps;kernel_rfl
theorem VF:((List.replicate 2 (.int .i64 0)):List Value).all (·.oneCell')=true:=by kernel_rfl
theorem ff:A7 Tryz.prog 78=some (List.replicate 2 (.int .i64 0)):=by kernel_rfl
theorem cR:AP Tryz.prog 78 0=some 0:=by kernel_rfl
theorem cT:AP Tryz.prog 78 1=some 1:=by kernel_rfl
theorem pJ:Af Tryz.prog 79=some 1:=by kernel_rfl
theorem ir:Dl Tryz.prog 79=true:=by kernel_rfl
theorem Kw:Af Tryz.prog 81=some 5:=by kernel_rfl
theorem SI:EV Tryz.prog 81=true:=by kernel_rfl
theorem iw:Bb Tryz.prog 81=some 64:=by kernel_rfl
theorem pK:∀ps,Tryz.prog.built 81 ps=Instr.fill (fun i=>(#[(0,1),(1,1),(2,1),(3,1),(4,1)]:Array (Nat×Nat))[i]?) ([.string (ByteArray.mk #[]),.int .i64 0,.int .i64 0,.slice none 0 0,.int .i64 0]:List Value).toArray ps:=by intro ps;kernel_rfl
theorem cU:([.string (ByteArray.mk #[]),.int .i64 0,.int .i64 0,.slice none 0 0,.int .i64 0]:List Value).all (·.oneCell')=true:=by kernel_rfl
theorem fk:A7 Tryz.prog 81=some [.string (ByteArray.mk #[]),.int .i64 0,.int .i64 0,.slice none 0 0,.int .i64 0]:=by kernel_rfl
theorem cV:AP Tryz.prog 81 0=some 0:=by kernel_rfl
theorem cW:AP Tryz.prog 81 1=some 1:=by kernel_rfl
theorem cX:AP Tryz.prog 81 2=some 2:=by kernel_rfl
theorem VG:AP Tryz.prog 81 3=some 3:=by kernel_rfl
theorem cY:AP Tryz.prog 81 4=some 4:=by kernel_rfl
theorem pL:∀ps,Tryz.prog.built 85 ps=Instr.fill (fun i=>(#[(0,1),(1,1)]:Array (Nat×Nat))[i]?) ((List.replicate 2 (.int .i64 0)):List Value).toArray ps:=by intro ps;kernel_rfl
theorem pM:((List.replicate 2 (.int .i64 0)):List Value).all (·.oneCell')=true:=by kernel_rfl
theorem cZ:AP Tryz.prog 85 0=some 0:=by kernel_rfl
theorem cj:AP Tryz.prog 85 1=some 1:=by kernel_rfl
theorem Nx:Af Tryz.prog 87=some 3:=by kernel_rfl
theorem VH:EV Tryz.prog 87=true:=by kernel_rfl
theorem pN:∀ps,Tryz.prog.built 87 ps=Instr.fill (fun i=>(#[(0,2),(2,1)]:Array (Nat×Nat))[i]?) ([.int .i64 0,.int .i64 0,.slice none 0 0]:List Value).toArray ps:=by intro ps;kernel_rfl
theorem YO:([.int .i64 0,.int .i64 0,.slice none 0 0]:List Value).all (·.oneCell')=true:=by kernel_rfl
theorem z87:A7 Tryz.prog 87=some [.int .i64 0,.int .i64 0,.slice none 0 0]:=by kernel_rfl
theorem ck:AP Tryz.prog 87 0=some 0:=by kernel_rfl
theorem cq:AP Tryz.prog 87 1=some 2:=by kernel_rfl
theorem aH:Af Tryz.prog 105=some 2:=by kernel_rfl
theorem aI:∀ps,Tryz.prog.built 105 ps=Instr.fill (fun i=>(#[(0,1),(1,1)]:Array (Nat×Nat))[i]?) ((List.replicate 2 (.int .i64 0)):List Value).toArray ps:=by intro ps;kernel_rfl
theorem aJ:((List.replicate 2 (.int .i64 0)):List Value).all (·.oneCell')=true:=by kernel_rfl
theorem YP:AP Tryz.prog 105 0=some 0:=by kernel_rfl
theorem YQ:AP Tryz.prog 105 1=some 1:=by kernel_rfl
theorem C7:Af Tryz.prog 107=some 15:=by kernel_rfl
theorem E8:EV Tryz.prog 107=true:=by kernel_rfl
theorem aK:Bb Tryz.prog 107=some 152:=by kernel_rfl
theorem iy:∀ps,Tryz.prog.built 107 ps=Instr.fill (fun i=>(#[(0,1),(1,1),(2,1),(3,2),(5,1),(6,2),(8,1),(9,1),(10,1),(11,1),(12,1),(13,2)]:Array (Nat×Nat))[i]?) ([.int .i64 0,.string (ByteArray.mk #[]),.string (ByteArray.mk #[]),.int .i64 0,.int .i64 0,.int .i64 0,.int .i64 0,.int .i64 0,.int .i64 0,.int .i64 0,.bool false,.int .i64 0,.slice none 0 0,.int .i64 0,.int .i64 0]:List Value).toArray ps:=by intro ps;kernel_rfl
theorem KY:([.int .i64 0,.string (ByteArray.mk #[]),.string (ByteArray.mk #[]),.int .i64 0,.int .i64 0,.int .i64 0,.int .i64 0,.int .i64 0,.int .i64 0,.int .i64 0,.bool false,.int .i64 0,.slice none 0 0,.int .i64 0,.int .i64 0]:List Value).all (·.oneCell')=true:=by kernel_rfl
theorem z107:A7 Tryz.prog 107=some [.int .i64 0,.string (ByteArray.mk #[]),.string (ByteArray.mk #[]),.int .i64 0,.int .i64 0,.int .i64 0,.int .i64 0,.int .i64 0,.int .i64 0,.int .i64 0,.bool false,.int .i64 0,.slice none 0 0,.int .i64 0,.int .i64 0]:=by kernel_rfl
theorem YR:AP Tryz.prog 107 0=some 0:=by kernel_rfl
theorem YS:AP Tryz.prog 107 1=some 1:=by kernel_rfl
theorem YT:AP Tryz.prog 107 2=some 2:=by kernel_rfl
theorem YU:AP Tryz.prog 107 3=some 3:=by kernel_rfl
theorem YV:AP Tryz.prog 107 4=some 5:=by kernel_rfl
theorem YW:AP Tryz.prog 107 5=some 6:=by kernel_rfl
theorem YX:AP Tryz.prog 107 6=some 8:=by kernel_rfl
theorem YY:AP Tryz.prog 107 7=some 9:=by kernel_rfl
theorem YZ:AP Tryz.prog 107 8=some 10:=by kernel_rfl
theorem Ya:AP Tryz.prog 107 9=some 11:=by kernel_rfl
theorem Ow:AP Tryz.prog 107 10=some 12:=by kernel_rfl
theorem Lm:AP Tryz.prog 107 11=some 13:=by kernel_rfl
theorem FZ:Af Tryz.prog 112=some 3:=by kernel_rfl
theorem cr:EV Tryz.prog 112=true:=by kernel_rfl
theorem iz:Bb Tryz.prog 112=some 24:=by kernel_rfl
theorem i6:∀ps,Tryz.prog.built 112 ps=Instr.fill (fun i=>(#[(0,2),(2,1)]:Array (Nat×Nat))[i]?) ((List.replicate 3 (.int .i64 0)):List Value).toArray ps:=by intro ps;kernel_rfl
theorem VI:((List.replicate 3 (.int .i64 0)):List Value).all (·.oneCell')=true:=by kernel_rfl
theorem cv:A7 Tryz.prog 112=some (List.replicate 3 (.int .i64 0)):=by kernel_rfl
theorem Yb:AP Tryz.prog 112 0=some 0:=by kernel_rfl
theorem Yc:AP Tryz.prog 112 1=some 2:=by kernel_rfl
theorem i7:Af Tryz.prog 114=some 1:=by kernel_rfl
theorem IQ:Dl Tryz.prog 114=true:=by kernel_rfl
theorem i9:([.pointer none]:List Value).all (·.oneCell')=true:=by kernel_rfl
theorem pO:A7 Tryz.prog 114=some [.pointer none]:=by kernel_rfl
theorem Ee:Af Tryz.prog 118=some 1:=by kernel_rfl
theorem Fl:Dl Tryz.prog 118=true:=by kernel_rfl
theorem aL:Bb Tryz.prog 118=some 4:=by kernel_rfl
theorem i_:A7 Tryz.prog 118=some [.int .u32 0]:=by kernel_rfl
theorem jA:Af Tryz.prog 123=some 1:=by kernel_rfl
theorem cw:Dl Tryz.prog 123=true:=by kernel_rfl
theorem jB:([.pointer none]:List Value).all (·.oneCell')=true:=by kernel_rfl
theorem pP:A7 Tryz.prog 123=some [.pointer none]:=by kernel_rfl
theorem SJ:Af Tryz.prog 128=some 8:=by kernel_rfl
theorem jC:Af Tryz.prog 138=some 1:=by kernel_rfl
theorem VJ:Dl Tryz.prog 138=true:=by kernel_rfl
theorem IU:Dl Tryz.prog 148=true:=by kernel_rfl
theorem jD:∀ps,Tryz.prog.built 150 ps=Instr.fill (fun i=>(#[(0,1),(1,1),(2,1)]:Array (Nat×Nat))[i]?) ([.int .i64 0,.slice none 0 0,.slice none 0 0]:List Value).toArray ps:=by intro ps;kernel_rfl
theorem jE:([.int .i64 0,.slice none 0 0,.slice none 0 0]:List Value).all (·.oneCell')=true:=by kernel_rfl
theorem Yd:AP Tryz.prog 150 0=some 0:=by kernel_rfl
theorem HR:AP Tryz.prog 150 1=some 1:=by kernel_rfl
theorem Ye:AP Tryz.prog 150 2=some 2:=by kernel_rfl
theorem Ek:Af Tryz.prog 157=some 12:=by kernel_rfl
theorem G1:EV Tryz.prog 157=true:=by kernel_rfl
theorem SK:∀ps,Tryz.prog.built 157 ps=Instr.fill (fun i=>(#[(0,1),(1,1),(2,2),(4,2),(6,2),(8,2),(10,1),(11,1)]:Array (Nat×Nat))[i]?) ([.int .i64 0,.string (ByteArray.mk #[]),.int .i64 0,.int .i64 0,.int .i64 0,.int .i64 0,.int .i64 0,.int .i64 0,.int .i64 0,.int .i64 0,.int .i64 0,.int .i64 0]:List Value).toArray ps:=by intro ps;kernel_rfl
theorem JE:([.int .i64 0,.string (ByteArray.mk #[]),.int .i64 0,.int .i64 0,.int .i64 0,.int .i64 0,.int .i64 0,.int .i64 0,.int .i64 0,.int .i64 0,.int .i64 0,.int .i64 0]:List Value).all (·.oneCell')=true:=by kernel_rfl
theorem z157:A7 Tryz.prog 157=some [.int .i64 0,.string (ByteArray.mk #[]),.int .i64 0,.int .i64 0,.int .i64 0,.int .i64 0,.int .i64 0,.int .i64 0,.int .i64 0,.int .i64 0,.int .i64 0,.int .i64 0]:=by kernel_rfl
theorem Yf:AP Tryz.prog 157 0=some 0:=by kernel_rfl
theorem jF:Af Tryz.prog 163=some 1:=by kernel_rfl
theorem Ny:Dl Tryz.prog 163=true:=by kernel_rfl
theorem Bk:Af Tryz.prog 165=some 4:=by kernel_rfl
theorem CL:EV Tryz.prog 165=true:=by kernel_rfl
theorem aM:Bb Tryz.prog 165=some 64:=by kernel_rfl
theorem VK:∀ps,Tryz.prog.built 165 ps=Instr.fill (fun i=>(#[(0,1),(1,1),(2,1),(3,1)]:Array (Nat×Nat))[i]?) ([.int .i64 0,.slice none 0 0,.bool false,.slice none 0 0]:List Value).toArray ps:=by intro ps;kernel_rfl
theorem Hy:([.int .i64 0,.slice none 0 0,.bool false,.slice none 0 0]:List Value).all (·.oneCell')=true:=by kernel_rfl
theorem Jv:A7 Tryz.prog 165=some [.int .i64 0,.slice none 0 0,.bool false,.slice none 0 0]:=by kernel_rfl
theorem Yg:AP Tryz.prog 165 0=some 0:=by kernel_rfl
theorem Nz:AP Tryz.prog 165 1=some 1:=by kernel_rfl
theorem Yh:AP Tryz.prog 165 2=some 2:=by kernel_rfl
theorem JF:AP Tryz.prog 165 3=some 3:=by kernel_rfl
theorem jG:∀ps,Tryz.prog.built 176 ps=Instr.fill (fun i=>some (i*8,8)) ((List.replicate 256 (.int .i64 0)):List Value).toArray ps:=by intro ps;kernel_rfl
theorem jH:((List.replicate 256 (.int .i64 0)):List Value).all (·.oneCell')=true:=by kernel_rfl
theorem aN:Af Tryz.prog 183=some 2:=by kernel_rfl
theorem jI:∀ps,Tryz.prog.built 183 ps=Instr.fill (fun i=>(#[(0,1),(1,1)]:Array (Nat×Nat))[i]?) ([.string (ByteArray.mk #[]),.int .i64 0]:List Value).toArray ps:=by intro ps;kernel_rfl
theorem aO:([.string (ByteArray.mk #[]),.int .i64 0]:List Value).all (·.oneCell')=true:=by kernel_rfl
theorem z183:A7 Tryz.prog 183=some [.string (ByteArray.mk #[]),.int .i64 0]:=by kernel_rfl
theorem Yi:AP Tryz.prog 183 1=some 1:=by kernel_rfl
theorem Mu:Af Tryz.prog 203=some 5:=by kernel_rfl
theorem N0:EV Tryz.prog 203=true:=by kernel_rfl
theorem DG:∀ps,Tryz.prog.built 203 ps=Instr.fill (fun i=>(#[(0,1),(1,1),(2,1),(3,1),(4,1)]:Array (Nat×Nat))[i]?) ([.string (ByteArray.mk #[]),.int .i64 0,.int .i64 0,.slice none 0 0,.slice none 0 0]:List Value).toArray ps:=by intro ps;kernel_rfl
theorem Co:([.string (ByteArray.mk #[]),.int .i64 0,.int .i64 0,.slice none 0 0,.slice none 0 0]:List Value).all (·.oneCell')=true:=by kernel_rfl
theorem z203:A7 Tryz.prog 203=some [.string (ByteArray.mk #[]),.int .i64 0,.int .i64 0,.slice none 0 0,.slice none 0 0]:=by kernel_rfl
theorem Yj:AP Tryz.prog 203 1=some 1:=by kernel_rfl
theorem Yk:AP Tryz.prog 203 2=some 2:=by kernel_rfl
theorem Yl:AP Tryz.prog 203 3=some 3:=by kernel_rfl
theorem Ym:AP Tryz.prog 203 4=some 4:=by kernel_rfl
theorem aP:Af Tryz.prog 207=some 115:=by kernel_rfl
theorem cx:EV Tryz.prog 207=true:=by kernel_rfl
theorem jJ:∀ps,Tryz.prog.built 207 ps=Instr.fill (fun i=>some (i*5,5)) ([.string (ByteArray.mk #[]),.int .i64 0,.int .i64 0,.slice none 0 0,.slice none 0 0,.string (ByteArray.mk #[]),.int .i64 0,.int .i64 0,.slice none 0 0,.slice none 0 0,.string (ByteArray.mk #[]),.int .i64 0,.int .i64 0,.slice none 0 0,.slice none 0 0,.string (ByteArray.mk #[]),.int .i64 0,.int .i64 0,.slice none 0 0,.slice none 0 0,.string (ByteArray.mk #[]),.int .i64 0,.int .i64 0,.slice none 0 0,.slice none 0 0,.string (ByteArray.mk #[]),.int .i64 0,.int .i64 0,.slice none 0 0,.slice none 0 0,.string (ByteArray.mk #[]),.int .i64 0,.int .i64 0,.slice none 0 0,.slice none 0 0,.string (ByteArray.mk #[]),.int .i64 0,.int .i64 0,.slice none 0 0,.slice none 0 0,.string (ByteArray.mk #[]),.int .i64 0,.int .i64 0,.slice none 0 0,.slice none 0 0,.string (ByteArray.mk #[]),.int .i64 0,.int .i64 0,.slice none 0 0,.slice none 0 0,.string (ByteArray.mk #[]),.int .i64 0,.int .i64 0,.slice none 0 0,.slice none 0 0,.string (ByteArray.mk #[]),.int .i64 0,.int .i64 0,.slice none 0 0,.slice none 0 0,.string (ByteArray.mk #[]),.int .i64 0,.int .i64 0,.slice none 0 0,.slice none 0 0,.string (ByteArray.mk #[]),.int .i64 0,.int .i64 0,.slice none 0 0,.slice none 0 0,.string (ByteArray.mk #[]),.int .i64 0,.int .i64 0,.slice none 0 0,.slice none 0 0,.string (ByteArray.mk #[]),.int .i64 0,.int .i64 0,.slice none 0 0,.slice none 0 0,.string (ByteArray.mk #[]),.int .i64 0,.int .i64 0,.slice none 0 0,.slice none 0 0,.string (ByteArray.mk #[]),.int .i64 0,.int .i64 0,.slice none 0 0,.slice none 0 0,.string (ByteArray.mk #[]),.int .i64 0,.int .i64 0,.slice none 0 0,.slice none 0 0,.string (ByteArray.mk #[]),.int .i64 0,.int .i64 0,.slice none 0 0,.slice none 0 0,.string (ByteArray.mk #[]),.int .i64 0,.int .i64 0,.slice none 0 0,.slice none 0 0,.string (ByteArray.mk #[]),.int .i64 0,.int .i64 0,.slice none 0 0,.slice none 0 0,.string (ByteArray.mk #[]),.int .i64 0,.int .i64 0,.slice none 0 0,.slice none 0 0]:List Value).toArray ps:=by intro ps;kernel_rfl
theorem aQ:([.string (ByteArray.mk #[]),.int .i64 0,.int .i64 0,.slice none 0 0,.slice none 0 0,.string (ByteArray.mk #[]),.int .i64 0,.int .i64 0,.slice none 0 0,.slice none 0 0,.string (ByteArray.mk #[]),.int .i64 0,.int .i64 0,.slice none 0 0,.slice none 0 0,.string (ByteArray.mk #[]),.int .i64 0,.int .i64 0,.slice none 0 0,.slice none 0 0,.string (ByteArray.mk #[]),.int .i64 0,.int .i64 0,.slice none 0 0,.slice none 0 0,.string (ByteArray.mk #[]),.int .i64 0,.int .i64 0,.slice none 0 0,.slice none 0 0,.string (ByteArray.mk #[]),.int .i64 0,.int .i64 0,.slice none 0 0,.slice none 0 0,.string (ByteArray.mk #[]),.int .i64 0,.int .i64 0,.slice none 0 0,.slice none 0 0,.string (ByteArray.mk #[]),.int .i64 0,.int .i64 0,.slice none 0 0,.slice none 0 0,.string (ByteArray.mk #[]),.int .i64 0,.int .i64 0,.slice none 0 0,.slice none 0 0,.string (ByteArray.mk #[]),.int .i64 0,.int .i64 0,.slice none 0 0,.slice none 0 0,.string (ByteArray.mk #[]),.int .i64 0,.int .i64 0,.slice none 0 0,.slice none 0 0,.string (ByteArray.mk #[]),.int .i64 0,.int .i64 0,.slice none 0 0,.slice none 0 0,.string (ByteArray.mk #[]),.int .i64 0,.int .i64 0,.slice none 0 0,.slice none 0 0,.string (ByteArray.mk #[]),.int .i64 0,.int .i64 0,.slice none 0 0,.slice none 0 0,.string (ByteArray.mk #[]),.int .i64 0,.int .i64 0,.slice none 0 0,.slice none 0 0,.string (ByteArray.mk #[]),.int .i64 0,.int .i64 0,.slice none 0 0,.slice none 0 0,.string (ByteArray.mk #[]),.int .i64 0,.int .i64 0,.slice none 0 0,.slice none 0 0,.string (ByteArray.mk #[]),.int .i64 0,.int .i64 0,.slice none 0 0,.slice none 0 0,.string (ByteArray.mk #[]),.int .i64 0,.int .i64 0,.slice none 0 0,.slice none 0 0,.string (ByteArray.mk #[]),.int .i64 0,.int .i64 0,.slice none 0 0,.slice none 0 0,.string (ByteArray.mk #[]),.int .i64 0,.int .i64 0,.slice none 0 0,.slice none 0 0,.string (ByteArray.mk #[]),.int .i64 0,.int .i64 0,.slice none 0 0,.slice none 0 0]:List Value).all (·.oneCell')=true:=by kernel_rfl
theorem pQ:A7 Tryz.prog 207=some [.string (ByteArray.mk #[]),.int .i64 0,.int .i64 0,.slice none 0 0,.slice none 0 0,.string (ByteArray.mk #[]),.int .i64 0,.int .i64 0,.slice none 0 0,.slice none 0 0,.string (ByteArray.mk #[]),.int .i64 0,.int .i64 0,.slice none 0 0,.slice none 0 0,.string (ByteArray.mk #[]),.int .i64 0,.int .i64 0,.slice none 0 0,.slice none 0 0,.string (ByteArray.mk #[]),.int .i64 0,.int .i64 0,.slice none 0 0,.slice none 0 0,.string (ByteArray.mk #[]),.int .i64 0,.int .i64 0,.slice none 0 0,.slice none 0 0,.string (ByteArray.mk #[]),.int .i64 0,.int .i64 0,.slice none 0 0,.slice none 0 0,.string (ByteArray.mk #[]),.int .i64 0,.int .i64 0,.slice none 0 0,.slice none 0 0,.string (ByteArray.mk #[]),.int .i64 0,.int .i64 0,.slice none 0 0,.slice none 0 0,.string (ByteArray.mk #[]),.int .i64 0,.int .i64 0,.slice none 0 0,.slice none 0 0,.string (ByteArray.mk #[]),.int .i64 0,.int .i64 0,.slice none 0 0,.slice none 0 0,.string (ByteArray.mk #[]),.int .i64 0,.int .i64 0,.slice none 0 0,.slice none 0 0,.string (ByteArray.mk #[]),.int .i64 0,.int .i64 0,.slice none 0 0,.slice none 0 0,.string (ByteArray.mk #[]),.int .i64 0,.int .i64 0,.slice none 0 0,.slice none 0 0,.string (ByteArray.mk #[]),.int .i64 0,.int .i64 0,.slice none 0 0,.slice none 0 0,.string (ByteArray.mk #[]),.int .i64 0,.int .i64 0,.slice none 0 0,.slice none 0 0,.string (ByteArray.mk #[]),.int .i64 0,.int .i64 0,.slice none 0 0,.slice none 0 0,.string (ByteArray.mk #[]),.int .i64 0,.int .i64 0,.slice none 0 0,.slice none 0 0,.string (ByteArray.mk #[]),.int .i64 0,.int .i64 0,.slice none 0 0,.slice none 0 0,.string (ByteArray.mk #[]),.int .i64 0,.int .i64 0,.slice none 0 0,.slice none 0 0,.string (ByteArray.mk #[]),.int .i64 0,.int .i64 0,.slice none 0 0,.slice none 0 0,.string (ByteArray.mk #[]),.int .i64 0,.int .i64 0,.slice none 0 0,.slice none 0 0,.string (ByteArray.mk #[]),.int .i64 0,.int .i64 0,.slice none 0 0,.slice none 0 0]:=by kernel_rfl
theorem aR:Af Tryz.prog 211=some 2:=by kernel_rfl
theorem cz:EV Tryz.prog 211=true:=by kernel_rfl
theorem jK:∀ps,Tryz.prog.built 211 ps=Instr.fill (fun i=>some (i*1,1)) ((List.replicate 2 (.int .i64 0)):List Value).toArray ps:=by intro ps;kernel_rfl
theorem aS:((List.replicate 2 (.int .i64 0)):List Value).all (·.oneCell')=true:=by kernel_rfl
theorem pR:A7 Tryz.prog 211=some (List.replicate 2 (.int .i64 0)):=by kernel_rfl
theorem jL:∀ps,Tryz.prog.built 212 ps=Instr.fill (fun i=>some (i*2,2)) ((List.replicate 10 (.int .i64 0)):List Value).toArray ps:=by intro ps;kernel_rfl
theorem jM:((List.replicate 10 (.int .i64 0)):List Value).all (·.oneCell')=true:=by kernel_rfl
end Go.Proofs.YtppdobdifkefcaaGreatDoor
namespace Cp
open Go Go.RowKit Go.Great
section
variable {P:Program} {L:Lg P} {n:Fm} {fz:Nat} {E:Env} {M0:Av} {w0:World} {S:Nat→Prop} {rs:List Ae} {o:Oper}
def lens (m:Nat):Pr where
 h _ _ v:=∃a c,v= .slice a m c
 st _M _w _M' _w' _v _ h:=h
instance jN (m:Nat):One (lens m):=⟨by rintro M w v ⟨a,c,rfl⟩;exact ⟨rfl,rfl⟩⟩
def Cb (e:TypeId) (sz:Nat) (rows:List (List Pr)) (v:Value):Ae where
 blk:=match v with| .slice (some a) _ _=>some a.block|_=>none
 new:=true
 h M w:=∃(b cap:Nat) (spare:List Value),v= .slice (some ⟨b,0,none⟩) rows.length cap∧rows.length≤cap∧cap≤maxLen∧spare.length=(cap-rows.length)*sz∧(AB true b e (rows.flatten++spare.map is)).h M w
 st M w M' w' he hk h:=by
  obtain ⟨b,cap,spare,rfl,h1,h2,h3,h4⟩:=h
  exact ⟨b,cap,spare,rfl,h1,h2,h3,(AB true b e _).st _ _ _ _ he hk h4⟩
theorem GM {sz:Nat}:∀{rows:List (List Pr)} {i j:Nat} {row:List Pr},(∀r∈rows,r.length=sz)→rows[i]? =some row→j<sz→rows.flatten[i*sz+j]? =row[j]?
 |[],_,_,_,_,h,_=>by simp at h
 |a::l,0,j,row,hl,h,hj=>by
  simp at h;subst h
  have:=hl a (by simp)
  rw [List.flatten_cons,Nat.zero_mul,Nat.zero_add,List.getElem?_append_left (by omega)]
 |a::l,i+1,j,row,hl,h,hj=>by
  have h1:=hl a (by simp)
  rw [List.flatten_cons,Nat.succ_mul,List.getElem?_append_right (by omega),h1,show i*sz+sz+j-sz=i*sz+j by omega]
  exact GM (fun r hr=>hl r (List.mem_cons_of_mem _ hr)) (by simpa using h) hj
theorem CM {sz:Nat}:∀{rows:List (List Pr)},(∀r∈rows,r.length=sz)→rows.flatten.length=rows.length*sz
 |[],_=>by simp
 |a::l,h=>by
  rw [List.flatten_cons,List.length_append,CM (fun r hr=>h r (List.mem_cons_of_mem _ hr)),h a (by simp),List.length_cons,Nat.succ_mul];omega
theorem Ox {M:Av} {w:World}:∀{ps:List Pr} {vs:List Value},vs.length=ps.length→(∀(k:Nat) p,ps[k]? =some p→∃u,vs[k]? =some u∧p.h M w u)→HL M w ps vs
 |[],[],_,_=>trivial
 |[],_::_,h,_=>by simp at h
 |_::_,[],h,_=>by simp at h
 |p::ps,v::vs,h,hk=>by
  refine ⟨?_,Ox (by simpa using h) fun k q hq=>by simpa using hk (k+1) q (by simpa using hq)⟩
  obtain ⟨u,hu,hp⟩:=hk 0 p rfl
  simp at hu;subst hu;exact hp
theorem Flat.hl {M:Av} {w:World} {sz:Nat} {rows:List (List Pr)} {news:List Value} (hsz:0<sz) (h:Flat M w sz rows news):HL M w rows.flatten news:=by
 have hl:∀r∈rows,r.length=sz:=fun r hr=>by obtain ⟨i,hi⟩:=List.mem_iff_getElem?.1 hr;exact (h.2.2 i r hi).1
 refine Ox (by rw [h.1,CM hl]) fun k p hk=> ?_
 have QH:k<rows.length*sz:=by rw [←CM hl];rcases Nat.lt_or_ge k rows.flatten.length with h|h;exact h;rw [List.getElem?_eq_none h] at hk;cases hk
 have hi:k/sz<rows.length:=Nat.div_lt_of_lt_mul (by rw [Nat.mul_comm];exact QH)
 have hj:k % sz<sz:=Nat.mod_lt _ hsz
 have he:k/sz*sz+k % sz=k:=by rw [Nat.mul_comm];exact Nat.div_add_mod k sz
 have hr:=List.getElem?_eq_getElem hi
 rw [←he,GM hl hr hj] at hk
 obtain ⟨u,hu,hp⟩:=(h.2.2 _ _ hr).2 _ p hk
 exact ⟨u,by rw [←he];exact hu,hp⟩
theorem HL.flat {M:Av} {w:World} {sz:Nat} {rows:List (List Pr)} {qs:List Pr} {cs:List Value} (hl:∀r∈rows,r.length=sz) (h:HL M w (rows.flatten++qs) cs) (h1:∀c∈cs,c.oneCell'=true):Flat M w sz rows (cs.take (rows.length*sz)):=by
 have hfl:=CM hl
 have hlen:=h.length
 refine ⟨by rw [List.length_take,hlen,List.length_append,hfl];omega,fun u hu=>h1 u (List.mem_of_mem_take hu),fun i row hi=> ?_⟩
 have hrl:=hl row (List.mem_of_getElem? hi)
 refine ⟨hrl,fun j p hp=> ?_⟩
 have hjl:j<sz:=by rw [←hrl];rcases Nat.lt_or_ge j row.length with h|h;exact h;rw [List.getElem?_eq_none h] at hp;cases hp
 have E3:i<rows.length:=by rcases Nat.lt_or_ge i rows.length with h|h;exact h;rw [List.getElem?_eq_none h] at hi;cases hi
 have hlt:i*sz+j<rows.length*sz:=by have:(i+1)*sz≤rows.length*sz:=Nat.mul_le_mul_right sz E3;rw [Nat.add_mul] at this;omega
 obtain ⟨u,hu,hh⟩:=h.at_ (i*sz+j) p (by rw [List.getElem?_append_left (by rw [hfl];exact hlt),GM hl hi hjl];exact hp)
 exact ⟨u,by rw [List.getElem?_take,if_pos hlt];exact hu,hh⟩
theorem Fo {zs:List Value} {z:Array Value} {k:Nat} (hz:z.toList=zs) (h1:zs.all (·.oneCell')=true):∀c∈(Builtin.zeroCells z k).toList,c.oneCell'=true:=by
 intro c hc
 simp only [Builtin.zeroCells,Array.toList_map,Array.toList_range,List.mem_map,List.mem_range] at hc
 obtain ⟨i,hi,rfl⟩:=hc
 have hpos:0<z.size:=by rcases Nat.eq_zero_or_pos z.size with h|h;rw [h] at hi;simp at hi;exact h
 have hm:i % z.size<z.size:=Nat.mod_lt _ hpos
 rw [getElem!_pos z _ hm]
 exact List.all_eq_true.1 h1 _ (by rw [←hz];simp)
theorem Yn {M:Av} {w:World} {t ty e:TypeId} {sz bytes:Nat} {zs:List Value} {rows:List (List Pr)} {u:Value} {j:Nat} (ht:P.underlying t=some (.slice e)) (hz:Af P e=some sz) (hby:Bb P e=some bytes) (DV:A7 P e=some zs) (hzl:zs.length=sz) (hone:zs.all (·.oneCell')=true) (hsz:0<sz)
  (h:Al M0 w0 S rs M w) (hj:rs[j]? =some BC) (hu:(slice sz rows).h M w u) (hpos:0<rows.length) (EP:rows.length≤maxLen) (hfit:rows.length*bytes≤140737488355328):
  ∃v' w' M',(Builtin.append_ #[t,t] ty #[.slice none 0 0,u]).run P w= .ok v' w'∧(lens rows.length).h M' w' v'∧Ext M w M' w'∧Al M0 w0 S (rs.set j (Cb e sz rows v')) M' w':=by
 unfold Af at hz
 unfold Bb at hby
 unfold A7 at DV
 cases hi:P.info? e with
 |none=>rw [hi] at hz;cases hz
 |some i=>
  rw [hi] at hz hby DV
  simp only [Option.map_some,Option.some.injEq,Option.map_eq_some_iff] at hz hby DV
  obtain ⟨z,R9,DV⟩:=DV
  have Uw:z.cells.size=sz:=by rw [←hzl,←DV];simp
  obtain ⟨A',c',rfl,bY,QX,Xl,E6⟩:=hu
  have Nj:(slice sz rows).h M w (.slice A' rows.length c'):=⟨A',c',rfl,bY,QX,Xl,E6⟩
  obtain ⟨Mo,rfl⟩:∃Mo,A'=some Mo:=by
   obtain ⟨_,b,hb,_⟩:=E6 0 _ (List.getElem?_eq_getElem hpos)
   exact ⟨b,hb⟩
  obtain ⟨news,hfl,hcell⟩:=EX hsz Nj
  have hrun:=run_append_nil (P:=P) w t ty e i z ht hi R9 Mo rows.length c' news (by rw [hz];exact hfl.1) (fun k u hk=>(hcell k u hk).1) hpos (by unfold maxLen at EP;omega) (by rw [hby];omega)
  generalize hcap:grownCap w rows.length 0 e=cap at hrun
  have hge:rows.length≤cap:=by rw [←hcap];exact grownCap_ge _ _ _ _
  have hle:cap≤maxLen:=by rw [←hcap];exact grownCap_le_maxLen _ _ _ _ EP
  generalize MX:Builtin.zeroCells z.cells (cap-rows.length)=zc at hrun
  have hzs:zc.size=(cap-rows.length)*sz:=by rw [←MX,size_zeroCells,Uw]
  have jO:∀c∈zc.toList,c.oneCell'=true:=by rw [←MX];exact Fo DV hone
  have hb:Below w.heap.size w (w.drew.alloc (.cells (news.toArray++zc) e)):=((Below.refl _ _).drew).alloc (Nat.le_refl _) _
  have h2:=Ext.below (M:=M) hb
  have DI:Ext M w (fun b o=>M b o∨b=w.heap.size) (w.drew.alloc (.cells (news.toArray++zc) e)):=by
   refine ⟨h2.size,fun a v hc hm=>⟨fun hx=> ?_,(h2.keep a v hc hm).2⟩,fun b o ho hp hm=>⟨fun hx=> ?_,(h2.obj b o ho hp hm).2⟩⟩
   ·
    rcases hx with hx|hx
    · exact hm hx
    · have:=C0 hc;omega
   ·
    rcases hx with hx|hx
    · exact hm hx
    · subst hx;simp at ho
  have hs1:(w.drew.alloc (.cells (news.toArray++zc) e)).heap.size=w.heap.size+1:=by simp
  refine ⟨_,_,fun b o=>M b o∨b=w.heap.size,hrun,⟨_,_,rfl⟩,DI,?_⟩
  refine h.replace hj DI hb.os hb.tape hb.output (fun k hk _=>hb.block k hk) rfl (fun b o hm _=> .inl hm) (fun b o hx=> ?_) ?_ rfl (fun b hbk=> ?_)
  ·
   rcases hx with hx|hx
   · have:=h.bd _ _ hx;omega
   · omega
  ·
   refine ⟨w.heap.size,cap,zc.toList,rfl,hge,hle,by simpa using hzs,fun o=> .inr rfl,news++zc.toList,?_,?_,?_⟩
   ·
    have hh:(w.drew.alloc (.cells (news.toArray++zc) e)).heap[w.heap.size]? =some (.cells (news.toArray++zc) e (0,0)):=heap_alloc_new w.drew _
    rw [hh];simp
   · exact ((hfl.st DI).hl hsz).app (I5 _ _ _)
   ·
    intro c hc
    rcases List.mem_append.1 hc with hc|hc
    · exact hfl.2.1 c hc
    · exact jO c hc
  ·
   have DL:some w.heap.size=some b:=hbk
   injection DL with e1
   subst e1
   exact ⟨by rw [hs1];omega,.inr (Nat.le_refl _)⟩
theorem St.Ln {e:TypeId} {sz:Nat} {rows:List (List Pr)} {v:Value} (j:Nat) (hj:rs[j]? =some (Cb e sz rows v)) {a:Act} {w:World} (h:St n E (Hp M0 w0 S rs) a w):
  ∃(b cap:Nat) (spare:List Value),v= .slice (some ⟨b,0,none⟩) rows.length cap∧rows.length≤cap∧cap≤maxLen∧spare.length=(cap-rows.length)*sz∧St n E (Hp M0 w0 S (rs.set j (AB true b e (rows.flatten++spare.map is)))) a w:=by
 obtain ⟨M,h1,h2,h3,h4⟩:=h
 have h4:Al M0 w0 S rs M w:=h4
 obtain ⟨b,cap,spare,rfl,h5,h6,h7,h8⟩:=(h4.hold _ (List.mem_of_getElem? hj)).1
 exact ⟨b,cap,spare,rfl,h5,h6,h7,M,h1,h2,h3,h4.CU hj rfl rfl h8⟩
theorem Tr.Ln {Q:Exit→Act→World→Prop} {c:Code} {e:TypeId} {sz:Nat} {rows:List (List Pr)} {v:Value} (j:Nat) (hj:rs[j]? =some (Cb e sz rows v))
  (k:∀(b cap:Nat) (spare:List Value),v= .slice (some ⟨b,0,none⟩) rows.length cap→rows.length≤cap→cap≤maxLen→spare.length=(cap-rows.length)*sz→Tr L n E (Hp M0 w0 S (rs.set j (AB true b e (rows.flatten++spare.map is)))) c Q):Tr L n E (Hp M0 w0 S rs) c Q:=
 fun a w hs=>let ⟨b,cap,spare,h1,h2,h3,h4,h5⟩:=hs.Ln j hj;k b cap spare h1 h2 h3 h4 a w h5
theorem Fin.Ln {Q:Exit→Act→World→Prop} {ex:Exit} {e:TypeId} {sz:Nat} {rows:List (List Pr)} {v:Value} (j:Nat) (hj:rs[j]? =some (Cb e sz rows v))
  (k:∀(b cap:Nat) (spare:List Value),v= .slice (some ⟨b,0,none⟩) rows.length cap→rows.length≤cap→cap≤maxLen→spare.length=(cap-rows.length)*sz→Fin n E (Hp M0 w0 S (rs.set j (AB true b e (rows.flatten++spare.map is)))) Q ex):Fin n E (Hp M0 w0 S rs) Q ex:=
 fun a w hs=>let ⟨b,cap,spare,h1,h2,h3,h4,h5⟩:=hs.Ln j hj;k b cap spare h1 h2 h3 h4 a w h5
theorem Al.fm {M:Av} {w:World} {b cap sz:Nat} {e:TypeId} {rows:List (List Pr)} {qs:List Pr} {j:Nat} (h:Al M0 w0 S rs M w) (hj:rs[j]? =some (AB true b e (rows.flatten++qs))) (hl:∀r∈rows,r.length=sz) (hc:rows.length≤cap) (hm:cap≤maxLen) (hq:qs.length=(cap-rows.length)*sz):
  ∃M',Ext M w M' w∧Al M0 w0 S (rs.set j (Ax e sz (.slice (some ⟨b,0,none⟩) rows.length cap))) M' w∧(slice sz rows).h M' w (.slice (some ⟨b,0,none⟩) rows.length cap):=by
 obtain ⟨⟨hM,cs,hh,hcs,hone⟩,fU⟩:=h.hold _ (List.mem_of_getElem? hj)
 have Xo:=(fU b rfl).1
 have hfl:=HL.flat hl hcs hone
 have hlen:=hcs.length
 rw [List.length_append,CM hl,hq,←Nat.add_mul,show rows.length+(cap-rows.length)=cap by omega] at hlen
 have he:Ext M w (fun b' o=>M b' o∧¬(b'=b∧o<rows.length*sz)) w:=Ext.less fun _ _ h=>h.1
 refine ⟨_,he,?_,Dp (hfl.st he) hc hm fun k u hk=> ?_⟩
 ·
  refine h.replace hj he rfl rfl rfl (fun _ _ _=>rfl) rfl (fun b' o hm' hne=>⟨hm',fun hx=>hne (by rw [hx.1];rfl)⟩) (fun b' o hx=>h.bd _ _ hx.1) ?_ rfl (fun b' hbk=> ?_)
  ·
   intro a' n' c' hv hlt
   injection hv with e1 e2 e3
   injection e1 with e1
   subst e1;subst e2;subst e3
   refine ⟨⟨cs.take (rows.length*sz),hfl.1,.inr ⟨b,cap,cs.toArray,rfl,Nat.zero_le _,hh,hc,hm,by simpa using hlen,by simp⟩⟩,fun o ho=>⟨hM o,fun hx=>by omega⟩⟩
  ·
   have DL:Cl (.slice (some ⟨b,0,none⟩) rows.length cap)=some b':=hbk
   simp only [Cl] at DL
   split at DL
   · simp at DL;subst DL;exact ⟨Xo,.inl rfl⟩
   · cases DL
 ·
  have QH:k<rows.length*sz:=by rw [←hfl.1];rcases Nat.lt_or_ge k (cs.take (rows.length*sz)).length with h|h;exact h;rw [List.getElem?_eq_none h] at hk;cases hk
  rw [List.getElem?_take,if_pos QH] at hk
  exact ⟨by simp [World.cell?,hh,hk],fun hx=>hx.2 ⟨rfl,QH⟩⟩
theorem St.Yo {b b0 cap sz:Nat} {e T:TypeId} {new:Bool} {rows:List (List Pr)} {qs ps ps':List Pr} (j i k:Nat) {p:Pr} (hj:rs[j]? =some (AB true b e (rows.flatten++qs))) (hi:rs[i]? =some (AB new b0 T ps)) (hij:j≠i) (hk:ps[k]? =some p) (hp:Pr.le p (is (.slice (some ⟨b,0,none⟩) rows.length cap)))
  (hl:∀r∈rows,r.length=sz) (hc:rows.length≤cap) (hm:cap≤maxLen) (hq:qs.length=(cap-rows.length)*sz) (hps:ps.set k (Ab (.slice (some ⟨b,0,none⟩) rows.length cap) (slice sz rows))=ps')
  {a:Act} {w:World} (h:St n E (Hp M0 w0 S rs) a w):St n E (Hp M0 w0 S ((rs.set j (Ax e sz (.slice (some ⟨b,0,none⟩) rows.length cap))).set i (AB new b0 T ps'))) a w:=by
 obtain ⟨M,h1,h2,h3,h4⟩:=h
 obtain ⟨M',h5,h6,h7⟩:=Al.fm h4 hj hl hc hm hq
 have hi':(rs.set j (Ax e sz (.slice (some ⟨b,0,none⟩) rows.length cap)))[i]? =some (AB new b0 T ps):=by rw [List.getElem?_set,if_neg hij];exact hi
 obtain ⟨h8,cs,h9,h10,h11⟩:=(h6.hold _ (List.mem_of_getElem? hi')).1
 refine ⟨M',h1,h2,fun s q hs=>q.st _ _ _ _ _ h5 (h3 s q hs),h6.CU hi' rfl rfl ⟨h8,cs,h9,?_,h11⟩⟩
 subst hps
 refine Ox (by rw [h10.length];simp) fun k' p' hk'=> ?_
 rw [List.getElem?_set] at hk'
 split at hk'
 ·
  rename_i e1
  subst e1
  split at hk'
  ·
   obtain ⟨u,hu,bS⟩:=h10.at_ k p hk
   simp at hk';subst hk'
   have:=hp _ _ _ bS
   refine ⟨u,hu,this,?_⟩
   have hu2:u= .slice (some ⟨b,0,none⟩) rows.length cap:=this
   rw [hu2];exact h7
  · cases hk'
 · exact h10.at_ k' p' hk'
theorem Tr.Yo {Q:Exit→Act→World→Prop} {c:Code} {b b0 cap sz:Nat} {e T:TypeId} {new:Bool} (rows:List (List Pr)) {qs ps ps':List Pr} (j i k:Nat) {p:Pr} (hj:rs[j]? =some (AB true b e (rows.flatten++qs))) (hi:rs[i]? =some (AB new b0 T ps)) (hij:j≠i) (hk:ps[k]? =some p) (hp:Pr.le p (is (.slice (some ⟨b,0,none⟩) rows.length cap)))
  (hl:∀r∈rows,r.length=sz) (hc:rows.length≤cap) (hm:cap≤maxLen) (hq:qs.length=(cap-rows.length)*sz) (hps:ps.set k (Ab (.slice (some ⟨b,0,none⟩) rows.length cap) (slice sz rows))=ps')
  (k':Tr L n E (Hp M0 w0 S ((rs.set j (Ax e sz (.slice (some ⟨b,0,none⟩) rows.length cap))).set i (AB new b0 T ps'))) c Q):Tr L n E (Hp M0 w0 S rs) c Q:=
 Tr.conv (fun _ _ hs=>hs.Yo j i k hj hi hij hk hp hl hc hm hq hps) k'
end
abbrev str (l:List UInt8):Pr:=is (.string ⟨l.toArray⟩)
theorem IV (l:List UInt8):(ByteArray.mk l.toArray).toList=l:=by rw [ByteArray.toList_eq]
theorem Lp (l:List UInt8):(ByteArray.mk l.toArray).size=l.length:=rfl
section
variable {P:Program} {L:Lg P} {E:Env} {I:B6} {o:Oper}
theorem c_ {t u:TypeId} {x y:Operand} {a b:List UInt8} (ho:o.op= .binOp .eql t x y u) (hx:VL E x (str a)) (hy:VL E y (str b)):AR P I o E (bool (decide (a=b))):=
 AR.same fun M w ac he _=>by
  have h1:ac.eval x=_:=hx.ev he (by simp [ho,Op.operands])
  have h2:ac.eval y=_:=hy.ev he (by simp [ho,Op.operands])
  refine ⟨_,by simp [execOp,ho,h1,h2,eqGuard,binOp,Op.stringOp,IV];rfl,?_⟩
  show Value.bool _=Value.bool _
  congr 1
  rw [Bool.eq_iff_iff];simp
theorem dA {t u:TypeId} {x y:Operand} {a b:List UInt8} (ho:o.op= .binOp .neq t x y u) (hx:VL E x (str a)) (hy:VL E y (str b)):AR P I o E (bool (!decide (a=b))):=
 AR.same fun M w ac he _=>by
  have h1:ac.eval x=_:=hx.ev he (by simp [ho,Op.operands])
  have h2:ac.eval y=_:=hy.ev he (by simp [ho,Op.operands])
  refine ⟨_,by simp [execOp,ho,h1,h2,eqGuard,binOp,Op.stringOp,IV];rfl,?_⟩
  show Value.bool _=Value.bool _
  congr 1
  rw [Bool.eq_iff_iff];simp
theorem Oy:∀(a b:List UInt8),Op.bytesLess a b=decide (Lib.compareBytes a b= -1)
 |_,[]=>by cases ‹List UInt8›<;>simp [Op.bytesLess,Lib.compareBytes]
 |[],_::_=>by simp [Op.bytesLess,Lib.compareBytes]
 |a::x,b::y=>by
  rw [Op.bytesLess,Oy x y,Lib.compareBytes]
  by_cases h1:a<b
  · simp [h1]
  ·
   by_cases h2:b<a
   ·
    have h3:a≠b:=fun e=>by subst e;exact h1 h2
    simp [h1,h2,h3]
   ·
    have h3:a=b:=UInt8.le_antisymm (UInt8.not_lt.1 h2) (UInt8.not_lt.1 h1)
    simp [h1,h2,h3]
theorem IW {t u:TypeId} {x y:Operand} {a b:List UInt8} (ho:o.op= .binOp .geq t x y u) (hx:VL E x (str a)) (hy:VL E y (str b)):AR P I o E (bool (!decide (Lib.compareBytes a b= -1))):=
 AR.same fun M w ac he _=>by
  have h1:ac.eval x=_:=hx.ev he (by simp [ho,Op.operands])
  have h2:ac.eval y=_:=hy.ev he (by simp [ho,Op.operands])
  exact ⟨_,by simp [execOp,ho,h1,h2,eqGuard,binOp,Op.stringOp,IV,Oy],rfl⟩
theorem Yp {t:TypeId} {x:Operand} {a:List UInt8} (ho:o.op= .call { callee:= .builtin .len,args:= #[x],argTypes:= #[t] }) (ht:P.underlying t=some .string) (hx:VL E x (str a)):AR P I o E (int ((a.length:Nat):Int)):=
 AR.same fun M w ac he _=>by
  have h1:ac.eval x=_:=hx.ev he (by simp [ho,Op.operands,Call.operands])
  exact ⟨.int .i64 a.length,by simp [execOp,ho,resolve,invoke,builtin,Builtin.len_,h1,run_underlying ht,goInt,Lp],rfl⟩
theorem N1 {t:TypeId} {x y:Operand} {k:IntKind} {a:List UInt8} {i:Int} {c:UInt8} (ho:o.op= .index t x y) (ht:P.underlying t=some .string) (hx:VL E x (str a)) (hy:VL E y (is (.int k i))) (h0:0≤i) (hc:a[i.toNat]? =some c):AR P I o E (is (.int .u8 c.toNat)):=
 AR.same fun M w ac he _=>by
  have h1:ac.eval x=_:=hx.ev he (by simp [ho,Op.operands])
  have h2:ac.eval y=_:=hy.ev he (by simp [ho,Op.operands])
  refine ⟨_,?_,rfl⟩
  have hlt:i.toNat<a.length:=by rcases Nat.lt_or_ge i.toNat a.length with h|h;exact h;rw [List.getElem?_eq_none h] at hc;cases hc
  have h3:(ByteArray.mk a.toArray)[i.toNat]? =some c:=by
   rw [getElem?_pos (ByteArray.mk a.toArray) i.toNat (by rw [Lp];exact hlt)]
   rw [List.getElem?_eq_getElem hlt] at hc
   simp only [Option.some.injEq] at hc
   rw [←hc]
   rfl
  simp [execOp,ho,h1,h2,Instr.index,asIntOf,run_underlying ht,h0,h3]
theorem Lq {s t e:TypeId} {x:Operand} {a:List UInt8} (ho:o.op= .convert s t x) (hs:P.underlying s=some .string) (ht:P.underlying t=some (.slice e)) (he:P.underlying e=some (.int .u8)) (hx:VL E x (str a)) (hm:a.length≤maxLen):AR P I o E (slice 1 (a.map fun c=>[is (.int .u8 c.toNat)])):=
 AR.val fun M w ac mX hI=>by
  have h1:ac.eval x=_:=hx.ev mX (by simp [ho,Op.operands])
  have hrun:=Lib.run_convert_string_bytes (P:=P) w s t e ⟨a.toArray⟩ hs ht he
  have hcap:=grownCap_ge w a.length 0 e
  have hcm:=grownCap_le_maxLen w a.length 0 e hm
  refine ⟨.slice (some ⟨w.heap.size,0,none⟩) a.length (grownCap w a.length 0 e),Lib.bytesWorld w e ⟨a.toArray⟩,by simp [execOp,ho,h1,hrun];exact ⟨rfl,rfl⟩,?_,?_⟩
  ·
   have hbd:Bd M w:=I.bd _ _ hI
   refine ⟨_,grownCap w a.length 0 e,by rw [List.length_map],by rw [List.length_map];exact hcap,hcm,(fun h=>by cases h),fun i row hr=> ?_⟩
   rw [List.getElem?_map] at hr
   cases hc:a[i]? with
   |none=>rw [hc] at hr;cases hr
   |some c=>
    rw [hc] at hr
    simp only [Option.map_some,Option.some.injEq] at hr
    subst hr
    have E3:i<a.length:=by rcases Nat.lt_or_ge i a.length with h|h;exact h;rw [List.getElem?_eq_none h] at hc;cases hc
    refine ⟨rfl,_,rfl,fun j p hp=> ?_⟩
    have hj:j=0:=by
     rcases Nat.eq_zero_or_pos j with h|h
     · exact h
     · rw [List.getElem?_eq_none (by simp;omega)] at hp;cases hp
    subst hj
    simp only [List.getElem?_cons_zero,Option.some.injEq] at hp
    subst hp
    refine ⟨.int .u8 c.toNat,?_,fun mP=> ?_,rfl,rfl⟩
    ·
     rw [show Addr.add ⟨w.heap.size,0,none⟩ (i*1+0)=⟨w.heap.size,i,none⟩ by unfold Addr.add;split<;>simp_all]
     rw [Lib.bytesWorld_cell w e ⟨a.toArray⟩ i (by rw [Lp];exact E3)]
     have:([]++a).getD i 0=c:=by simp [hc]
     simp [hc]
    · have:=hbd _ _ mP;simp at this
  · exact Lib.bytesWorld_below w e ⟨a.toArray⟩
theorem N2 {a:List UInt8} {k:Nat} {c:UInt8} (h:a[k]? =some c):a[((k:Nat):Int).toNat]? =some c:=h
theorem Oz {t e:TypeId} {x y:Operand} {k:IntKind} {i:Int} {len sz:Nat} {ps qs:List Pr} (ho:o.op= .index t x y) (ht:P.underlying t=some (.array len e)) (he:EV P e=true) (hz:Af P e=some sz) (hx:VL E x (agg ps)) (hy:VL E y (is (.int k i))) (h0:0≤i) (hl:i<len)
  (hq:(ps.drop (i.toNat*sz)).take sz=qs):AR P I o E (agg qs):=
 AR.same fun M w ac mX _=>by
  obtain ⟨cs,h1,ho1,h2⟩:=hx.ev mX (by simp [ho,Op.operands])
  have h3:ac.eval y=_:=hy.ev mX (by simp [ho,Op.operands])
  refine ⟨.agg (cs.toArray.extract (i.toNat*sz) (i.toNat*sz+sz)),?_,(cs.drop (i.toNat*sz)).take sz,?_,fun c hc=>ho1 c (List.mem_of_mem_drop (List.mem_of_mem_take hc)),by rw [←hq];exact (h2.drop _).take _⟩
  · simp [execOp,ho,h1,h3,Instr.index,asIntOf,run_underlying ht,h0,hl,Bf hz,part,Dn he]
  ·
   congr 1
   apply Array.toList_inj.1
   simp [List.extract,Nat.add_sub_cancel_left]
theorem VM {M:Av} {w:World} {v:Value} {xs:List Value} (h:(agg (xs.map is)).h M w v):v= .agg xs.toArray:=by
 obtain ⟨cs,rfl,ho,h2⟩:=h
 congr 1
 have:cs=xs:=by
  clear ho
  induction xs generalizing cs with
  |nil=>cases cs with
   |nil=>rfl
   |cons c cs=>exact h2.elim
  |cons x xs ih=>cases cs with
   |nil=>exact h2.elim
   |cons c cs=>rw [ih cs h2.2,show c=x from h2.1]
 rw [this]
theorem VN {t u:TypeId} {x y:Operand} {r:Bool} (xs ys:List Value) (ho:o.op= .binOp .eql t x y u) (hx:VL E x (agg (xs.map is))) (hy:VL E y (agg (ys.map is))) (hg:P.eqGuardType P.depth t=false) (hr:∀w,(Op.equal t (.agg xs.toArray) (.agg ys.toArray)).run P w= .ok r w):AR P I o E (bool r):=
 AR.same fun M w ac he _=>by
  have h1:=VM (hx.ev he (by simp [ho,Op.operands]))
  have h2:=VM (hy.ev he (by simp [ho,Op.operands]))
  exact ⟨_,by simp [execOp,ho,h1,h2,eqGuard,hg,binOp,hr w],rfl⟩
theorem eqS {P:Program} {w:World} {d:Nat} {t:TypeId} {fs:Array Field} {xs ys:Array Value} {r:Bool} (ht:P.underlying t=some (.struct fs)) (hp:P.stoodInHeld t=false) (h:(Op.eqFields d xs ys fs.toList).run P w= .ok r w):(Op.equalIn (d+1) t (.agg xs) (.agg ys)).run P w= .ok r w:=by
 have hf:P.fieldsOf t=fs:=by unfold Program.fieldsOf;rw [ht]
 rw [run_equalIn_struct w d t xs ys (by rw [hf];exact ht) hp,hf];exact h
theorem Yq {P:Program} {w:World} {d:Nat} {xs ys:Array Value}:(Op.eqFields d xs ys []).run P w= .ok true w:=by simp [Op.eqFields]
theorem O0 {P : Program} {w : World} {d : Nat} {xs ys : Array Value} {f : Field} {fs : List Field} {vx vy : Value} {r q : Bool} (hn : f.name ≠ "_") (ha : (part f.type xs f.offset).run P w = .ok vx w) (hb : (part f.type ys f.offset).run P w = .ok vy w)
  (he:(Op.equalIn d f.type vx vy).run P w= .ok r w) (hr:(Op.eqFields d xs ys fs).run P w= .ok q w):(Op.eqFields d xs ys (f::fs)).run P w= .ok (r&&q) w:=by
 simp only [Op.eqFields,hn,ne_eq,not_false_eq_true,if_true,Sem.run_bind,ha,hb,he,Result.andThen_ok]
 cases r
 · simp
 · simpa using hr
theorem HS {P:Program} {w:World} {t:TypeId} {cs:Array Value} {off:Nat} {v:Value} (h1:Dl P t=true) (hv:cs[off]? =some v):(part t cs off).run P w= .ok v w:=by
 simp [part,Dm h1,hv]
theorem SL {P:Program} {w:World} {d:Nat} {t:TypeId} {k:IntKind} {a b:Int} (h:P.underlying t=some (.int k)):(Op.equalIn (d+1) t (.int k a) (.int k b)).run P w= .ok (decide (a=b)) w:=by
 rw [run_equalIn_int w d t k k a b h];rfl
end
section
variable {P:Program} {L:Lg P} {E:Env} {I:B6} {o:Oper}
theorem Ls {M:Av} {w:World} {sz:Nat} {rows:List (List Pr)} {A:Option Addr} {cap lo hi:Nat} (h:(slice sz rows).h M w (.slice A rows.length cap)) (h1:lo≤hi) (h2:hi≤rows.length):
  (slice sz ((rows.take hi).drop lo)).h M w (.slice (if cap=lo then A else A.map (·.add (lo*sz))) (hi-lo) (cap-lo)):=by
 obtain ⟨A',cap',hv,hc,hm,hA,hr⟩:=h
 injection hv with e1 _ e3
 subst e1;subst e3
 have hlen:((rows.take hi).drop lo).length=hi-lo:=by rw [List.length_drop,List.length_take];omega
 refine ⟨_,cap-lo,by rw [hlen],by rw [hlen];omega,by omega,fun h=> ?_,fun i row hi'=> ?_⟩
 ·
  split at h
  · have:=hA h;omega
  ·
   cases hA2:A with
   |none=>have:=hA hA2;omega
   |some a=>rw [hA2] at h;cases h
 ·
  rw [List.getElem?_drop,List.getElem?_take] at hi'
  split at hi'
  ·
   rename_i hlt
   obtain ⟨h3,ad,h4,h5⟩:=hr _ row hi'
   subst h4
   rw [if_neg (by omega)]
   refine ⟨h3,_,rfl,fun j p hp=> ?_⟩
   obtain ⟨u,h6,h7,h8,h9⟩:=h5 j p hp
   refine ⟨u,?_,?_,h8,h9⟩
   · rw [add_add,show lo*sz+(i*sz+j)=(lo+i)*sz+j by rw [Nat.add_mul];omega];exact h6
   · rw [Fx,Iz,show ad.off+lo*sz+(i*sz+j)=ad.off+((lo+i)*sz+j) by rw [Nat.add_mul];omega];exact h7
  · cases hi'
theorem IX {t e:TypeId} {x y:Operand} {k:IntKind} {h:Int} {sz:Nat} {rows:List (List Pr)} (ho:o.op= .slice t x none (some y) none) (ht:P.underlying t=some (.slice e)) (hz:Af P e=some sz) (hx:VL E x (slice sz rows)) (hy:VL E y (is (.int k h))) (h0:0≤h) (hl:h≤rows.length):
  AR P I o E (slice sz (rows.take h.toNat)):=
 AR.same fun M w a he _=>by
  have h1:=hx.ev he (by simp [ho,Op.operands])
  have h3:a.eval y=_:=hy.ev he (by simp [ho,Op.operands])
  obtain ⟨A,cap,hv,hc,hm,hA,hr⟩:=h1
  have h2:=Ls (lo:=0) (hi:=h.toNat) (show (slice sz rows).h M w (.slice A rows.length cap) from ⟨A,cap,rfl,hc,hm,hA,hr⟩) (by omega) (by omega)
  refine ⟨_,?_,by simpa using h2⟩
  have hb:h≤(cap:Int):=by omega
  simp [execOp,ho,hv,h3,Instr.sliceAt,Instr.slice,run_underlying ht,Instr.sliceBounds,Instr.sliceBound,asIntOf,h0,hb,Bf hz]
theorem N3 {t e:TypeId} {x y:Operand} {k:IntKind} {l:Int} {sz:Nat} {rows:List (List Pr)} (ho:o.op= .slice t x (some y) none none) (ht:P.underlying t=some (.slice e)) (hz:Af P e=some sz) (hx:VL E x (slice sz rows)) (hy:VL E y (is (.int k l))) (h0:0≤l) (hl:l≤rows.length):
  AR P I o E (slice sz (rows.drop l.toNat)):=
 AR.same fun M w a he _=>by
  have h1:=hx.ev he (by simp [ho,Op.operands])
  have h3:a.eval y=_:=hy.ev he (by simp [ho,Op.operands])
  obtain ⟨A,cap,hv,hc,hm,hA,hr⟩:=h1
  have h2:=Ls (lo:=l.toNat) (hi:=rows.length) (show (slice sz rows).h M w (.slice A rows.length cap) from ⟨A,cap,rfl,hc,hm,hA,hr⟩) (by omega) (Nat.le_refl _)
  rw [List.take_length] at h2
  refine ⟨_,?_,h2⟩
  simp [execOp,ho,hv,h3,Instr.sliceAt,Instr.slice,run_underlying ht,Instr.sliceBounds,Instr.sliceBound,asIntOf,h0,hl,Bf hz]
end
section
variable {P:Program} {L:Lg P} {n:Fm} {fz:Nat} {E:Env} {M0:Av} {w0:World} {S:Nat→Prop} {rs:List Ae} {o:Oper} {g:Func} {M1:Av} {w1:World}
theorem results0 {g:Func} {a:Act} {w:World} (hr:g.results= #[]):(results g a.tmps).run P w= .ok (.tuple #[]) w:=by
 rw [IM,hr];simp [Sem.run_bind]
def SM (E:Env) (v0:Value) (q0:Pr):List Operand→List Pr→Prop
 |[],[]=>True
 |x::xs,p::ps=>(VL E x p∨(VL E x (is v0)∧Pr.le (Ab v0 q0) p))∧SM E v0 q0 xs ps
 |_,_=>False
theorem SM.ev {M M':Av} {w:World} {a:Act} {v0:Value} {q0:Pr} (he:Bs M w E o a) (hx:Ext M w M' w) (h0:q0.h M' w v0):∀{xs:List Operand} {ps:List Pr},(∀x∈xs,x∈o.op.operands.toList)→SM E v0 q0 xs ps→HL M' w ps (xs.map a.eval)
 |[],[],_,_=>trivial
 |[],_::_,_,h=>h.elim
 |_::_,[],_,h=>h.elim
 |x::xs,p::ps,hm,h=>by
  refine ⟨?_,SM.ev he hx h0 (fun y hy=>hm y (List.mem_cons_of_mem _ hy)) h.2⟩
  rcases h.1 with h1|⟨h1,h2⟩
  · exact p.st _ _ _ _ _ hx (h1.ev he (hm x (by simp)))
  ·
   have h3:a.eval x=v0:=h1.ev he (hm x (by simp))
   exact h2 _ _ _ ⟨h3,by rw [h3];exact h0⟩
class Lt (p:Pr):Prop where
 free:∀M M' w v,p.h M w v→p.h M' w v
instance mY (u:Value):Lt (is u):=⟨fun _ _ _ _ h=>h⟩
instance fq (m:Nat):Lt (lens m):=⟨fun _ _ _ _ h=>h⟩
end
def QI (es:List (Value×Value)):Array MapEntry:=(es.zipIdx.map fun p=>({ key:=p.1.1,val:=p.1.2,born:=p.2 }:MapEntry)).toArray
theorem Lu (es:List (Value×Value)) (i:Nat):(QI es)[i]? =(es[i]?).map fun p=>{ key:=p.1,val:=p.2,born:=i }:=by
 simp [QI,List.getElem?_zipIdx]
 cases es[i]? <;>simp
structure pS (P:Program) (T kt et:TypeId) {κ:Type} [DecidableEq κ] (enc:κ→Value):Prop where
 und:P.underlying T=some (.map kt et)
 zero:∀w,(zeroValue et).run P w= .ok (.int .i64 0) w
 eq:∀a b w,(Op.equal kt (enc a) (enc b)).run P w= .ok (decide (a=b)) w
 chk:∀e a w,(Instr.checkKey e 10000 kt (enc a)).run P w= .ok () w
 sS:∃d,P.underlying kt=some d∧((∀a b,Instr.sameNow d (enc a) (enc b)=none)∨∀a b,Instr.sameNow d (enc a) (enc b)=some (decide (a=b)))
 bits:∀a,Instr.sameBits 10000 (enc a) (enc a)=true
section
variable {P:Program} {L:Lg P} {n:Fm} {fz:Nat} {E:Env} {M0:Av} {w0:World} {S:Nat→Prop} {rs:List Ae} {o:Oper} {κ:Type} [DecidableEq κ] {enc:κ→Value}
abbrev Lv (enc:κ→Value) (es:List (κ×Int)):List (Value×Value):=es.map fun p=>(enc p.1,.int .i64 p.2)
def dB (enc:κ→Value) (b:Nat) (es:List (κ×Int)):Ae where
 blk:=some b
 new:=true
 h M w:=(∀o,M b o)∧w.heap[b]? =some (.map (QI (Lv enc es)) es.length)
 st M w M' w' he hk h:=by
  obtain ⟨h1,h2⟩:=hk b rfl
  exact ⟨fun o=>h2 o (h.1 o),h1.trans h.2⟩
theorem Al.pT {M:Av} {w:World} {obj:Obj} {r:Ae} (h:Al M0 w0 S rs M w) (hb:r.blk=some w.heap.size) (hn:r.new=true) (hr:r.h (fun b o=>M b o∨b=w.heap.size) (w.alloc obj)):
  Al M0 w0 S (r::rs) (fun b o=>M b o∨b=w.heap.size) (w.alloc obj)∧Ext M w (fun b o=>M b o∨b=w.heap.size) (w.alloc obj):=by
 have Xo:Below w.heap.size w (w.alloc obj):=(Below.refl _ _).alloc (Nat.le_refl _) _
 have hsz:(w.alloc obj).heap.size=w.heap.size+1:=by simp
 have he:Ext M w (fun b o=>M b o∨b=w.heap.size) (w.alloc obj):=by
  have h2:=Ext.below (M:=M) Xo
  refine ⟨h2.size,fun a v hc hm=>⟨fun hx=> ?_,(h2.keep a v hc hm).2⟩,fun b o ho hp hm=>⟨fun hx=> ?_,(h2.obj b o ho hp hm).2⟩⟩
  ·
   rcases hx with hx|hx
   · exact hm hx
   · have:=C0 hc;omega
  ·
   rcases hx with hx|hx
   · exact hm hx
   · subst hx;simp at ho
 have hI:=(Hp M0 w0 S rs).st _ _ _ Xo h
 refine ⟨⟨hI.m0,fun b o hm=> .inl (hI.m b o hm),hI.os,hI.tape,hI.output,hI.size,hI.block,fun b o hm=> ?_,fun r' hr'=> ?_,?_⟩,he⟩
 ·
  rcases hm with hm|hm
  · exact hI.bd b o hm
  · omega
 ·
  rcases List.mem_cons.1 hr' with rfl|hr'
  ·
   refine ⟨hr,fun b hbk=> ?_⟩
   rw [hb] at hbk
   injection hbk with hbk
   subst hbk
   exact ⟨by omega,by rw [hn];simpa using h.size⟩
  ·
   obtain ⟨h3,h4⟩:=h.hold r' hr'
   exact ⟨r'.st _ _ _ _ he (fun b hbk=>⟨Xo.block b (h4 b hbk).1,fun _ x=> .inl x⟩) h3,fun b hbk=>⟨by have:=(h4 b hbk).1;omega,(h4 b hbk).2⟩⟩
 ·
  refine List.Pairwise.cons (fun r' hr' b hbk DL=> ?_) h.nd
  rw [hb] at hbk
  injection hbk with hbk
  have:=((h.hold r' hr').2 b DL).1
  omega
def Jw (w:World) (b:Nat) (o:Obj):World:={ w with heap:=w.heap.setIfInBounds b o }
theorem Yr {w:World} {b:Nat} {o:Obj} (h:b<w.heap.size):(Jw w b o).heap[b]? =some o:=by
 show (w.heap.setIfInBounds b o)[b]? =_
 rw [Array.getElem?_setIfInBounds];simp [h]
theorem IY {w:World} {b k:Nat} {o:Obj} (h:k≠b):(Jw w b o).heap[k]? =w.heap[k]? :=by
 show (w.heap.setIfInBounds b o)[k]? =_
 rw [Array.getElem?_setIfInBounds,if_neg (fun e=>h e.symm)]
theorem Al.pU {M:Av} {w:World} {obj:Obj} {r r':Ae} {j b:Nat} (h:Al M0 w0 S rs M w) (hj:rs[j]? =some r) (hb:r.blk=some b) (hb':r'.blk=some b) (hn:r.new=true) (hn':r'.new=true) (hM:∀o,M b o) (hr:r'.h M (Jw w b obj)):
  Al M0 w0 S (rs.set j r') M (Jw w b obj)∧Ext M w M (Jw w b obj):=by
 have hlt:=((h.hold r (List.mem_of_getElem? hj)).2 b hb).1
 have hsz:(Jw w b obj).heap.size=w.heap.size:=by simp [Jw]
 have he:Ext M w M (Jw w b obj):=by
  refine ⟨by omega,fun a v hc hm=>⟨hm,?_⟩,fun k o ho hp hm=>⟨hm,?_⟩⟩
  · rw [World.cell?_of_block (w:=w) (IY (fun e=>hm (by rw [e];exact hM _)))];exact hc
  · rw [IY (fun e=>hm (by rw [e];exact hM _))];exact ho
 refine ⟨h.replace hj he rfl rfl rfl (fun k _ hk=>IY (fun e=>hk (by rw [hb,e]))) hn (fun _ _ hm _=>hm) (fun k o hm=>by rw [hsz];exact h.bd k o hm) hr hn' (fun k hk=> ?_),he⟩
 rw [hb'] at hk
 injection hk with hk
 subst hk
 exact ⟨by omega,.inl hb⟩
variable {Q:Exit→Act→World→Prop} {ops:Array Oper} {r:List Oper}
def Mv (it b m:Nat) (seen:List Nat):Ae where
 blk:=some it
 new:=true
 h M w:=(∀o,M it o)∧w.heap[it]? =some (.mapIter (some b) m seen.toArray m)
 st M w M' w' he hk h:=by
  obtain ⟨h1,h2⟩:=hk it rfl
  exact ⟨fun o=>h2 o (h.1 o),h1.trans h.2⟩
theorem TO.range {d j b:Nat} {T kt et:TypeId} {x:Operand} {es:List (κ×Int)} (hT:pS P T kt et enc) (hg:o.guard=none) (hd:o.dst=some d) (hn:d<n) (ho:o.op= .range T x) (hx:VL E x (is (.map (some b)))) (hj:rs[j]? =some (dB enc b es))
  (k:∀it,TO P n ops r ((d,ptr it 0)::E) (Hp M0 w0 S (Mv it b es.length []::rs)) Q):TO P n ops (o::r) E (Hp M0 w0 S rs) Q:=
 TO.Us hg fun K M w a hsz hdf he hI hK=>by
  have h1:a.eval x=_:=hx.ev (o:=o) (B7 he) (by simp [ho,Op.operands])
  obtain ⟨_,hh⟩:=(Al.hold hI _ (List.mem_of_getElem? hj)).1
  refine TO.val (v:= .pointer (some ⟨w.heap.size,0,none⟩)) (w':=w.alloc (.mapIter (some b) es.length #[] es.length)) ?_ ?_
  · simp [execOp,ho,h1,run_range_map w T kt et b _ _ hT.und hh]
  ·
   obtain ⟨h2,h3⟩:=Al.pT (obj:= .mapIter (some b) es.length #[] es.length) (r:=Mv w.heap.size b es.length []) hI rfl rfl ⟨fun _=> .inr rfl,by rw [heap_alloc_new]⟩
   refine hK _ _ _ _ (k w.heap.size) ⟨_,by rw [BV];exact hsz,by rw [put_defers];exact hdf,?_,h2⟩
   intro s p hp
   simp only [List.lookup] at hp
   by_cases hs:s=d
   · subst hs;simp at hp;subst hp;rw [hd,BG (by rw [hsz];exact hn)];rfl
   ·
    rw [show (s==d)=false by simpa using hs] at hp
    rw [hd,At hs]
    exact p.st _ _ _ _ _ h3 (he s p hp)
theorem mem_left {es:List (Value×Value)} {seen:List Nat} {e:MapEntry}:e∈(leftOf (QI es) seen.toArray).toList↔∃q p,es[q]? =some p∧q∉seen∧e={ key:=p.1,val:=p.2,born:=q }:=by
 unfold leftOf
 rw [Array.toList_filter,List.mem_filter]
 constructor
 ·
  rintro ⟨h1,h2⟩
  obtain ⟨q,hq⟩:=List.mem_iff_getElem?.1 h1
  rw [Array.getElem?_toList,Lu] at hq
  cases hp:es[q]? with
  |none=>rw [hp] at hq;cases hq
  |some p=>
   rw [hp] at hq
   simp only [Option.map_some,Option.some.injEq] at hq
   subst hq
   exact ⟨q,p,hp,by simpa using h2,rfl⟩
 ·
  rintro ⟨q,p,hp,hq,rfl⟩
  exact ⟨List.mem_iff_getElem?.2 ⟨q,by rw [Array.getElem?_toList,Lu,hp];rfl⟩,by simpa using hq⟩
theorem N4 {w:World} (ty:TypeId) {it b m:Nat} {seen:List Nat} {es:List (Value×Value)} (hm:es.length=m) (hit:w.heap[it]? =some (.mapIter (some b) m seen.toArray m)) (hb:w.heap[b]? =some (.map (QI es) m)):
  ((∀q,q<m→q∈seen)∧(Instr.next (.pointer (some ⟨it,0,none⟩)) false ty).run P w= .ok (.tuple #[.bool false]) w)∨
  ∃q p,es[q]? =some p∧q∉seen∧∃w1,(w1=w∨w1=w.drew)∧(Instr.next (.pointer (some ⟨it,0,none⟩)) false ty).run P w= .ok (.tuple #[.bool true,p.1,p.2]) (Jw w1 it (.mapIter (some b) m (seen++[q]).toArray m)):=by
 have hold:∀x∈(QI es).toList,x.born<m:=by
  intro x hx
  obtain ⟨q,hq⟩:=List.mem_iff_getElem?.1 hx
  rw [Array.getElem?_toList,Lu] at hq
  cases hp:es[q]? with
  |none=>rw [hp] at hq;cases hq
  |some p=>
   rw [hp] at hq
   simp only [Option.map_some,Option.some.injEq] at hq
   subst hq
   show q<m
   rcases Nat.lt_or_ge q es.length with h|h
   · omega
   · rw [List.getElem?_eq_none h] at hp;cases hp
 simp only [Instr.next,getObj,Sem.run_bind,Sem.run,hit,hb,Result.andThen,next_test_false seen.toArray (QI es) m m hold (Nat.le_refl _),Bool.false_eq_true,if_false]
 have hleft:(QI es).filter (fun e=> !seen.toArray.contains e.born)=leftOf (QI es) seen.toArray:=rfl
 rw [hleft]
 have hmem:∀x∈(leftOf (QI es) seen.toArray).toList,x.born<m:=fun x hx=>by
  obtain ⟨q,p,h1,_,rfl⟩:=mem_left.1 hx
  rcases Nat.lt_or_ge q es.length with h|h
  · show q<m;omega
  · rw [List.getElem?_eq_none h] at h1;cases h1
 have hml:∀e,e∈(leftOf (QI es) seen.toArray).toList↔∃q p,es[q]? =some p∧q∉seen∧e={ key:=p.1,val:=p.2,born:=q }:=fun e=>mem_left
 generalize leftOf (QI es) seen.toArray=L at hmem hml ⊢
 have e1:L.filter (fun x=>decide (x.born<m))=L:=Array.filter_eq_self.2 (fun x hx=>by simpa using hmem x (by simpa using hx))
 have e2:L.filter (fun x=>decide (x.born≥m))= #[]:=by
  rw [Array.filter_eq_empty_iff]
  intro x hx
  have:=hmem x (by simpa using hx)
  simp
  omega
 simp only [e1,e2,Array.append_empty]
 by_cases h0:L.size=0
 ·
  left
  have hL:L= #[]:=Array.eq_empty_of_size_eq_zero h0
  refine ⟨fun q hq=> ?_,?_⟩
  ·
   rcases Classical.em (q∈seen) with h|h
   · exact h
   ·
    have:=(hml { key:=(es[q]'(by omega)).1,val:=(es[q]'(by omega)).2,born:=q }).2 ⟨q,es[q]'(by omega),List.getElem?_eq_getElem (by omega),h,rfl⟩
    rw [hL] at this;simp at this
  ·
   subst hL
   simp [choose,Sem.run,Question.forced]
 ·
  right
  have hne:L.isEmpty=false:=by simp [Array.isEmpty,h0]
  simp only [hne,Bool.false_eq_true,if_false,Array.empty_append,Array.size_map]
  have hch:∃(j:Nat) (w1:World),j<L.size∧(w1=w∨w1=w.drew)∧(choose (Question.mapNext L.size)).run P w= .ok j w1:=by
   by_cases hf:L.size≤1
   · exact ⟨0,w,by omega,.inl rfl,by simp [choose,Sem.run,Question.forced,hf]⟩
   ·
    exact ⟨_, w.drew, Nat.mod_lt _ (by omega), .inr rfl, by
     simp only [choose,Sem.run,Question.forced,decide_eq_true_eq,hf,if_false,Question.cut]
     rfl⟩
  obtain ⟨j,w1,hj,hal,hrun⟩:=hch
  obtain ⟨q,p,hq1,OX,Ys⟩:=(hml L[j]).1 (by simp)
  refine ⟨q,p,hq1,OX,w1,hal,?_⟩
  have hw1:w1.heap=w.heap:=by rcases hal with rfl|rfl<;>rfl
  have IB:∀(o':Obj),(setObj it o').run P w1= .ok () (Jw w1 it o'):=fun o'=>by
   have pV:w1.heap[it]? =some (.mapIter (some b) m seen.toArray m):=by rw [hw1];exact hit
   simp only [setObj,Sem.run,pV]
   rfl
  simp only [hrun,Array.getElem?_map,Array.getElem?_eq_getElem hj,Option.map_some,Sem.run_bind,IB,Result.andThen]
  rw [Ys]
  simp
omit [DecidableEq κ] in
theorem TO.next {d i j it b:Nat} {x:Operand} {es:List (κ×Int)} {seen:List Nat} (hg:o.guard=none) (hd:o.dst=some d) (hn:d<n) (ho:o.op= .next x false) (hx:VL E x (ptr it 0)) (hi:rs[i]? =some (Mv it b es.length seen)) (hj:rs[j]? =some (dB enc b es))
  (k1:(∀q,q<es.length→q∈seen)→TO P n ops r ((d,Iv [bool false])::E) (Hp M0 w0 S rs) Q)
  (k2:∀q p,es[q]? =some p→q∉seen→TO P n ops r ((d,Iv [bool true,is (enc p.1),int p.2])::E) (Hp M0 w0 S (rs.set i (Mv it b es.length (seen++[q])))) Q):TO P n ops (o::r) E (Hp M0 w0 S rs) Q:=
 TO.Us hg fun K M w a hsz hdf he hI hK=>by
  have h1:a.eval x= .pointer (some ⟨it,0,none⟩):=hx.ev (o:=o) (B7 he) (by simp [ho,Op.operands])
  obtain ⟨⟨hMi,hit⟩,hbi⟩:=Al.hold hI _ (List.mem_of_getElem? hi)
  obtain ⟨_,hh⟩:=(Al.hold hI _ (List.mem_of_getElem? hj)).1
  have hlt:=(hbi it rfl).1
  rcases N4 (P:=P) o.type (es:=Lv enc es) (by simp [Lv]) hit hh with ⟨h2,h3⟩|⟨q,p,h2,h3,w1,h4,h5⟩
  ·
   refine TO.val (v:= .tuple #[.bool false]) (w':=w) ?_ ?_
   · simp [execOp,ho,h1,h3]
   ·
    refine hK _ _ _ _ (k1 h2) ⟨M,by rw [BV];exact hsz,by rw [put_defers];exact hdf,?_,hI⟩
    intro s p hp
    simp only [List.lookup] at hp
    by_cases hs:s=d
    · subst hs;simp at hp;subst hp;rw [hd,BG (by rw [hsz];exact hn)];exact ⟨_,rfl,rfl,trivial⟩
    ·
     rw [show (s==d)=false by simpa using hs] at hp
     rw [hd,At hs];exact he s p hp
  ·
   have hes:∃p',es[q]? =some p'∧p=(enc p'.1,.int .i64 p'.2):=by
    simp only [Lv,List.getElem?_map] at h2
    cases h:es[q]? with
    |none=>rw [h] at h2;cases h2
    |some p'=>rw [h] at h2;simp at h2;exact ⟨p',rfl,h2.symm⟩
   obtain ⟨p',hp',rfl⟩:=hes
   refine TO.val (v:= .tuple #[.bool true,enc p'.1,.int .i64 p'.2]) (w':=Jw w1 it (.mapIter (some b) es.length (seen++[q]).toArray es.length)) ?_ ?_
   · simp [execOp,ho,h1,h5]
   ·
    have dD:Below w.heap.size w w1:=by
     rcases h4 with rfl|rfl
     · exact Below.refl _ _
     · exact (Below.refl _ _).drew
    have hI1:=(Hp M0 w0 S rs).st _ _ _ dD hI
    obtain ⟨h6,h7⟩:=Al.pU (obj:= .mapIter (some b) es.length (seen++[q]).toArray es.length) (r':=Mv it b es.length (seen++[q])) hI1 hi rfl rfl rfl rfl hMi ⟨hMi,Yr (Nat.lt_of_lt_of_le hlt dD.size)⟩
    refine hK _ _ _ _ (k2 q p' hp' h3) ⟨M,by rw [BV];exact hsz,by rw [put_defers];exact hdf,?_,h6⟩
    intro s p hp
    simp only [List.lookup] at hp
    by_cases hs:s=d
    · subst hs;simp at hp;subst hp;rw [hd,BG (by rw [hsz];exact hn)];exact ⟨_,rfl,rfl,rfl,rfl,trivial⟩
    ·
     rw [show (s==d)=false by simpa using hs] at hp
     rw [hd,At hs]
     exact p.st _ _ _ _ _ ((Ext.below dD).trans h7) (he s p hp)
omit [DecidableEq κ] in
theorem TO.entry {d i j it b q:Nat} {x:Operand} {es:List (κ×Int)} {seen:List Nat} {p:κ×Int} (hg:o.guard=none) (hd:o.dst=some d) (hn:d<n) (ho:o.op= .entry x) (hx:VL E x (ptr it 0)) (hi:rs[i]? =some (Mv it b es.length (seen++[q]))) (hj:rs[j]? =some (dB enc b es)) (hq:es[q]? =some p)
  (k:TO P n ops r ((d,Iv [is (enc p.1),int p.2])::E) (Hp M0 w0 S rs) Q):TO P n ops (o::r) E (Hp M0 w0 S rs) Q:=
 TO.Us hg fun K M w a hsz hdf he hI hK=>by
  have h1:a.eval x= .pointer (some ⟨it,0,none⟩):=hx.ev (o:=o) (B7 he) (by simp [ho,Op.operands])
  obtain ⟨⟨_,hit⟩,_⟩:=Al.hold hI _ (List.mem_of_getElem? hi)
  obtain ⟨_,hh⟩:=(Al.hold hI _ (List.mem_of_getElem? hj)).1
  have hat:(QI (Lv enc es))[q]? =some { key:=enc p.1,val:= .int .i64 p.2,born:=q }:=by rw [Lu];simp [Lv,hq]
  have hnd:((QI (Lv enc es)).toList.map (·.born)).Nodup:=by
   have:(QI (Lv enc es)).toList.map (·.born)=List.range (Lv enc es).length:=by
    apply List.ext_getElem?
    intro k
    rw [List.getElem?_map,Array.getElem?_toList,Lu]
    by_cases hk:k<(Lv enc es).length
    · rw [List.getElem?_range hk,List.getElem?_eq_getElem hk];rfl
    · rw [List.getElem?_eq_none (Nat.le_of_not_lt hk),List.getElem?_eq_none (by simp at hk ⊢;omega)];rfl
   rw [this];exact List.nodup_range
  have hfind:(QI (Lv enc es)).find? (fun e=>e.born==q)=some { key:=enc p.1,val:= .int .i64 p.2,born:=q }:=by
   rw [←Array.find?_toList]
   exact find_born { key:=enc p.1,val:= .int .i64 p.2,born:=q } _ hnd (List.mem_iff_getElem?.2 ⟨q,by rw [Array.getElem?_toList];exact hat⟩)
  refine TO.val (v:= .tuple #[enc p.1,.int .i64 p.2]) (w':=w) ?_ ?_
  ·
   have:(Instr.entry (.pointer (some ⟨it,0,none⟩))).run P w= .ok (.tuple #[enc p.1,.int .i64 p.2]) w:=by
    have hb:(seen++[q]).toArray.back? =some q:=by simp
    simp only [Instr.entry,getObj,Sem.run_bind,Sem.run,hit,hh,Result.andThen,hb,bne_self_eq_false,Bool.false_eq_true,if_false,hfind]
    rfl
   simp [execOp,ho,h1,this]
  ·
   refine hK _ _ _ _ k ⟨M,by rw [BV];exact hsz,by rw [put_defers];exact hdf,?_,hI⟩
   intro s p hp
   simp only [List.lookup] at hp
   by_cases hs:s=d
   · subst hs;simp at hp;subst hp;rw [hd,BG (by rw [hsz];exact hn)];exact ⟨_,rfl,rfl,rfl,trivial⟩
   ·
    rw [show (s==d)=false by simpa using hs] at hp
    rw [hd,At hs];exact he s p hp
end
section
variable {P:Program} {L:Lg P}
end
section
variable {P:Program} {L:Lg P} {n:Fm} {fz:Nat} {E:Env} {M0:Av} {w0:World} {S:Nat→Prop} {rs:List Ae} {o:Oper}
theorem Kx (w:World) (A:Option Addr) (t ty e:TypeId) (i:TypeInfo) (z:Value) (ht:P.underlying t=some (.slice e)) (hi:P.info? e=some i) (hz:i.zero=some z)
  (a:Addr) (n c:Nat) (news:List Value) (hl:news.length=n*i.size) (hnews:∀j v,news[j]? =some v→w.cell? (a.add j)=some v)
  (h0:0<n) (h63:(n:Int)≤9223372036854775807) (h48:n*i.bytes≤281474976710656):
  (Builtin.append_ #[t, t] ty #[.slice A 0 0, .slice (some a) n c]).run P w =
   .ok (.slice (some ⟨w.heap.size,0,none⟩) n (grownCap w n 0 e)) (w.drew.alloc (.cells (news.toArray++Builtin.zeroCells z.cells (grownCap w n 0 e-n)) e)):=by
 cases A with
 |none=>exact run_append_nil (w:=w) t ty e i z ht hi hz a n c news hl hnews h0 h63 h48
 |some b=>
  have:=run_append_grow (w:=w) t ty e i z ht hi hz b 0 0 [] (by simp) (by simp) a n c news hl hnews (by omega) (by simpa using h63) (by rw [Nat.zero_add,nextslicecap_zero h0];exact h48)
  simpa using this
theorem O1 {M:Av} {w:World} {t ty e:TypeId} {sz bytes:Nat} {zs:List Value} {rows:List (List Pr)} {u:Value} {j:Nat} (A:Option Addr) (ht:P.underlying t=some (.slice e)) (hz:Af P e=some sz) (hby:Bb P e=some bytes) (DV:A7 P e=some zs) (hzl:zs.length=sz) (hone:zs.all (·.oneCell')=true) (hsz:0<sz)
  (h:Al M0 w0 S rs M w) (hj:rs[j]? =some BC) (hu:(slice sz rows).h M w u) (hpos:0<rows.length) (EP:rows.length≤maxLen) (hfit:rows.length*bytes≤140737488355328):
  ∃v' w' M',(Builtin.append_ #[t,t] ty #[.slice A 0 0,u]).run P w= .ok v' w'∧(lens rows.length).h M' w' v'∧Ext M w M' w'∧Al M0 w0 S (rs.set j (Cb e sz rows v')) M' w':=by
 unfold Af at hz
 unfold Bb at hby
 unfold A7 at DV
 cases hi:P.info? e with
 |none=>rw [hi] at hz;cases hz
 |some i=>
  rw [hi] at hz hby DV
  simp only [Option.map_some,Option.some.injEq,Option.map_eq_some_iff] at hz hby DV
  obtain ⟨z,R9,DV⟩:=DV
  have Uw:z.cells.size=sz:=by rw [←hzl,←DV];simp
  obtain ⟨A',c',rfl,bY,QX,Xl,E6⟩:=hu
  have Nj:(slice sz rows).h M w (.slice A' rows.length c'):=⟨A',c',rfl,bY,QX,Xl,E6⟩
  obtain ⟨Mo,rfl⟩:∃Mo,A'=some Mo:=by
   obtain ⟨_,b,hb,_⟩:=E6 0 _ (List.getElem?_eq_getElem hpos)
   exact ⟨b,hb⟩
  obtain ⟨news,hfl,hcell⟩:=EX hsz Nj
  have hrun:=Kx (P:=P) w A t ty e i z ht hi R9 Mo rows.length c' news (by rw [hz];exact hfl.1) (fun k u hk=>(hcell k u hk).1) hpos (by unfold maxLen at EP;omega) (by rw [hby];omega)
  generalize hcap:grownCap w rows.length 0 e=cap at hrun
  have hge:rows.length≤cap:=by rw [←hcap];exact grownCap_ge _ _ _ _
  have hle:cap≤maxLen:=by rw [←hcap];exact grownCap_le_maxLen _ _ _ _ EP
  generalize MX:Builtin.zeroCells z.cells (cap-rows.length)=zc at hrun
  have hzs:zc.size=(cap-rows.length)*sz:=by rw [←MX,size_zeroCells,Uw]
  have jO:∀c∈zc.toList,c.oneCell'=true:=by rw [←MX];exact Fo DV hone
  have hb:Below w.heap.size w (w.drew.alloc (.cells (news.toArray++zc) e)):=((Below.refl _ _).drew).alloc (Nat.le_refl _) _
  have h2:=Ext.below (M:=M) hb
  have DI:Ext M w (fun b o=>M b o∨b=w.heap.size) (w.drew.alloc (.cells (news.toArray++zc) e)):=by
   refine ⟨h2.size,fun a v hc hm=>⟨fun hx=> ?_,(h2.keep a v hc hm).2⟩,fun b o ho hp hm=>⟨fun hx=> ?_,(h2.obj b o ho hp hm).2⟩⟩
   ·
    rcases hx with hx|hx
    · exact hm hx
    · have:=C0 hc;omega
   ·
    rcases hx with hx|hx
    · exact hm hx
    · subst hx;simp at ho
  have hs1:(w.drew.alloc (.cells (news.toArray++zc) e)).heap.size=w.heap.size+1:=by simp
  refine ⟨_,_,fun b o=>M b o∨b=w.heap.size,hrun,⟨_,_,rfl⟩,DI,?_⟩
  refine h.replace hj DI hb.os hb.tape hb.output (fun k hk _=>hb.block k hk) rfl (fun b o hm _=> .inl hm) (fun b o hx=> ?_) ?_ rfl (fun b hbk=> ?_)
  ·
   rcases hx with hx|hx
   · have:=h.bd _ _ hx;omega
   · omega
  ·
   refine ⟨w.heap.size,cap,zc.toList,rfl,hge,hle,by simpa using hzs,fun o=> .inr rfl,news++zc.toList,?_,?_,?_⟩
   ·
    have hh:(w.drew.alloc (.cells (news.toArray++zc) e)).heap[w.heap.size]? =some (.cells (news.toArray++zc) e (0,0)):=heap_alloc_new w.drew _
    rw [hh];simp
   · exact ((hfl.st DI).hl hsz).app (I5 _ _ _)
   ·
    intro c hc
    rcases List.mem_append.1 hc with hc|hc
    · exact hfl.2.1 c hc
    · exact jO c hc
  ·
   have DL:some w.heap.size=some b:=hbk
   injection DL with e1
   subst e1
   exact ⟨by rw [hs1];omega,.inr (Nat.le_refl _)⟩
theorem GN {t e:TypeId} {x y:Operand} {sz':Nat} {sz bytes d:Nat} {zs:List Value} {rows:List (List Pr)} {j:Nat} (hg:o.guard=none) (hd:o.dst=some d) (hn:d<n) (ho:o.op= .call { callee:= .builtin .append,args:= #[x,y],argTypes:= #[t,t] })
  (ht:P.underlying t=some (.slice e)) (hz:Af P e=some sz) (hby:Bb P e=some bytes) (DV:A7 P e=some zs) (hzl:zs.length=sz) (hone:zs.all (·.oneCell')=true) (hsz:0<sz)
  (hx:VL E x (full sz' [])) (hy:VL E y (slice sz rows)) (hpos:0<rows.length) (EP:rows.length≤maxLen) (hfit:rows.length*bytes≤140737488355328):C5 P M0 w0 S n j (SR.c BC) ⟨d,Cb e sz rows⟩ o E (lens rows.length):=by
 refine ⟨hg,fun M w a rs IG he hI hj=> ?_⟩
 have h2:=hy.ev he (by simp [ho,Op.operands,Call.operands])
 obtain ⟨_,A,h1⟩:=hx.ev he (by simp [ho,Op.operands,Call.operands])
 simp only [List.length_nil] at h1
 obtain ⟨v',w',M',hrun,h3,h4,h5⟩:=O1 A (ty:=o.type) ht hz hby DV hzl hone hsz hI hj h2 hpos EP hfit
 have DM:(execOp a.eval o).run P w= .ok (.value v') w':=by simp [execOp,ho,resolve,invoke,builtin,h1,hrun]
 rw [DM]
 refine ⟨M',h3,h4,?_⟩
 have:(SR.at_ (a.put o.dst v') ⟨d,Cb e sz rows⟩)=Cb e sz rows v':=by unfold SR.at_ Slot.val;dsimp only;rw [hd,BG (by rw [IG];exact hn)]
 rw [this];exact h5
theorem JG {I:B6} {t e:TypeId} {x:Operand} {A:Option Addr} {m cap:Nat} (ho:o.op= .call { callee:= .builtin .len,args:= #[x],argTypes:= #[t] }) (ht:P.underlying t=some (.slice e)) (hx:VL E x (is (.slice A m cap))):AR P I o E (int m):=
 AR.same fun M w a he _=>by
  have h1:a.eval x=_:=hx.ev he (by simp [ho,Op.operands,Call.operands])
  exact ⟨.int .i64 m,by simp [execOp,ho,resolve,invoke,builtin,Builtin.len_,h1,run_underlying ht,goInt],rfl⟩
theorem O2 {I:B6} {t e:TypeId} {x y:Operand} {k:IntKind} {h:Int} {sz b m cap:Nat} (ho:o.op= .slice t x none (some y) none) (ht:P.underlying t=some (.slice e)) (hz:Af P e=some sz) (hx:VL E x (is (.slice (some ⟨b,0,none⟩) m cap))) (hy:VL E y (is (.int k h))) (h0:0≤h) (hl:h≤m) (hc:m≤cap) (h1m:0<cap):
  AR P I o E (is (.slice (some ⟨b,0,none⟩) h.toNat cap)):=
 AR.same fun M w a he _=>by
  have h1:a.eval x=_:=hx.ev he (by simp [ho,Op.operands])
  have h3:a.eval y=_:=hy.ev he (by simp [ho,Op.operands])
  have hb:h≤(cap:Int):=by omega
  refine ⟨_,?_,rfl⟩
  simp [execOp,ho,h1,h3,Instr.sliceAt,Instr.slice,run_underlying ht,Instr.sliceBounds,Instr.sliceBound,asIntOf,h0,hb,Bf hz]
  intro _;rfl
theorem VO {β:Type} {f:β→List Pr} {l:List β} {qs:List Pr} {sz:Nat} (hf:∀x,(f x).length=sz) {i:Nat} {x:β} (h:l[i]? =some x):((((l.map f).flatten++qs).drop (i*sz)).take sz)=f x:=by
 have hl:∀r∈l.map f,r.length=sz:=fun r hr=>by obtain ⟨y,_,rfl⟩:=List.mem_map.1 hr;exact hf y
 have hi:i<l.length:=by rcases Nat.lt_or_ge i l.length with h'|h';exact h';rw [List.getElem?_eq_none h'] at h;cases h
 have hfl:=CM hl
 rw [List.length_map] at hfl
 have hle:(i+1)*sz≤l.length*sz:=Nat.mul_le_mul_right sz hi
 rw [Nat.add_mul,Nat.one_mul] at hle
 apply List.ext_getElem?
 intro k
 rw [List.getElem?_take]
 split
 ·
  rename_i hk
  rw [List.getElem?_drop,List.getElem?_append_left (by rw [hfl];omega),GM hl (by rw [List.getElem?_map,h];rfl) hk]
 ·
  rename_i hk
  rw [List.getElem?_eq_none (by rw [hf];omega)]
theorem Mw {β:Type} {f:β→List Pr} {sz:Nat} (hf:∀x,(f x).length=sz):∀{l:List β} {qs:List Pr} {i:Nat} {x:β},i<l.length→((l.map f).flatten++qs).take (i*sz)++f x++((l.map f).flatten++qs).drop (i*sz+sz)=((l.set i x).map f).flatten++qs
 |[],_,_,_,h=>by simp at h
 |a::l,qs,0,x,_=>by
  simp only [List.map_cons,List.flatten_cons,Nat.zero_mul,List.take_zero,List.nil_append,Nat.zero_add,List.set_cons_zero]
  rw [←hf a,List.append_assoc,List.drop_left,List.append_assoc]
 |a::l,qs,i+1,x,h=>by
  have ih:=Mw hf (l:=l) (qs:=qs) (i:=i) (x:=x) (by simpa using h)
  simp only [List.map_cons,List.flatten_cons,List.set_cons_succ]
  have e1:(i+1)*sz=(f a).length+i*sz:=by rw [hf a,Nat.add_mul];omega
  rw [List.append_assoc,List.append_assoc,e1,List.take_append,List.take_of_length_le (by omega),show (f a).length+i*sz-(f a).length=i*sz by omega,show (f a).length+i*sz+sz=(f a).length+(i*sz+sz) by omega,List.drop_append,List.drop_of_length_le (by omega),show (f a).length+(i*sz+sz)-(f a).length=i*sz+sz by omega,List.nil_append,List.append_assoc (f a) _ qs,←ih]
  simp only [List.append_assoc]
theorem TO.Ln {ops:Array Oper} {r:List Oper} {Q:Exit→Act→World→Prop} {e:TypeId} {sz:Nat} {rows:List (List Pr)} {v:Value} (j:Nat) (hj:rs[j]? =some (Cb e sz rows v))
  (k:∀(b cap:Nat) (spare:List Value),v= .slice (some ⟨b,0,none⟩) rows.length cap→rows.length≤cap→cap≤maxLen→spare.length=(cap-rows.length)*sz→TO P n ops r E (Hp M0 w0 S (rs.set j (AB true b e (rows.flatten++spare.map is)))) Q):TO P n ops r E (Hp M0 w0 S rs) Q:=
 fun m hl a w hs=>let ⟨b,cap,spare,h1,h2,h3,h4,h5⟩:=hs.Ln j hj;k b cap spare h1 h2 h3 h4 m hl a w h5
theorem Mx {β:Type} {f:β→List Pr} {l:List β} {qs:List Pr} {sz:Nat} (hf:∀x,(f x).length=sz):((l.map f).flatten++qs).length=l.length*sz+qs.length:=by
 rw [List.length_append,CM (sz:=sz) (fun r hr=>by obtain ⟨y,_,rfl⟩:=List.mem_map.1 hr;exact hf y),List.length_map]
theorem BD {β:Type} {f:β→List Pr} {l:List β} {sz:Nat} (hf:∀x,(f x).length=sz):∀r∈l.map f,r.length=sz:=fun r hr=>by obtain ⟨y,_,rfl⟩:=List.mem_map.1 hr;exact hf y
theorem St.Qg {b cap sz:Nat} {e:TypeId} {rows:List (List Pr)} {qs:List Pr} (j d:Nat) {p:Pr} (hj:rs[j]? =some (AB true b e (rows.flatten++qs))) (hd:E.lookup d=some p) (hp:Pr.le p (is (.slice (some ⟨b,0,none⟩) rows.length cap)))
  (hl:∀r∈rows,r.length=sz) (hc:rows.length≤cap) (hm:cap≤maxLen) (hq:qs.length=(cap-rows.length)*sz)
  {a:Act} {w:World} (h:St n E (Hp M0 w0 S rs) a w):St n ((d,Ab (.slice (some ⟨b,0,none⟩) rows.length cap) (slice sz rows))::E) (Hp M0 w0 S (rs.set j (Ax e sz (.slice (some ⟨b,0,none⟩) rows.length cap)))) a w:=by
 obtain ⟨M,h1,h2,h3,h4⟩:=h
 obtain ⟨M',h5,h6,h7⟩:=Al.fm h4 hj hl hc hm hq
 refine ⟨M',h1,h2,fun s q hs=> ?_,h6⟩
 simp only [List.lookup] at hs
 split at hs
 ·
  rename_i e1
  have:s=d:=by simpa using e1
  subst this
  simp only [Option.some.injEq] at hs
  subst hs
  have h8:=hp _ _ _ (h3 _ _ hd)
  exact ⟨h8,by rw [show a.tmps.getD s undef=_ from h8];exact h7⟩
 · exact q.st _ _ _ _ _ h5 (h3 s q hs)
theorem Tr.Qg {Q:Exit→Act→World→Prop} {c:Code} {b cap sz:Nat} {e:TypeId} (rows:List (List Pr)) {qs:List Pr} (j d:Nat) {p:Pr} (hj:rs[j]? =some (AB true b e (rows.flatten++qs))) (hd:E.lookup d=some p) (hp:Pr.le p (is (.slice (some ⟨b,0,none⟩) rows.length cap)))
  (hl:∀r∈rows,r.length=sz) (hc:rows.length≤cap) (hm:cap≤maxLen) (hq:qs.length=(cap-rows.length)*sz)
  (k:Tr L n ((d,Ab (.slice (some ⟨b,0,none⟩) rows.length cap) (slice sz rows))::E) (Hp M0 w0 S (rs.set j (Ax e sz (.slice (some ⟨b,0,none⟩) rows.length cap)))) c Q):Tr L n E (Hp M0 w0 S rs) c Q:=
 Tr.conv (fun _ _ hs=>hs.Qg j d hj hd hp hl hc hm hq) k
theorem Fin.Qg {Q:Exit→Act→World→Prop} {x:Exit} {b cap sz:Nat} {e:TypeId} (rows:List (List Pr)) {qs:List Pr} (j d:Nat) {p:Pr} (hj:rs[j]? =some (AB true b e (rows.flatten++qs))) (hd:E.lookup d=some p) (hp:Pr.le p (is (.slice (some ⟨b,0,none⟩) rows.length cap)))
  (hl:∀r∈rows,r.length=sz) (hc:rows.length≤cap) (hm:cap≤maxLen) (hq:qs.length=(cap-rows.length)*sz)
  (k:Fin n ((d,Ab (.slice (some ⟨b,0,none⟩) rows.length cap) (slice sz rows))::E) (Hp M0 w0 S (rs.set j (Ax e sz (.slice (some ⟨b,0,none⟩) rows.length cap)))) Q x):Fin n E (Hp M0 w0 S rs) Q x:=
 Fin.conv (fun _ _ hs=>hs.Qg j d hj hd hp hl hc hm hq) k
end
section
variable {P:Program} {L:Lg P} {n:Fm} {fz:Nat} {E:Env} {M0:Av} {w0:World} {S:Nat→Prop} {rs:List Ae} {o:Oper} {g:Func} {M1:Av} {w1:World}
def EG (T:TypeId) (ps:List Pr) (v:Value):Ae:=match v with| .pointer (some a)=>AB true a.block T ps|_=>BC
theorem Ex {d j:Nat} {T:TypeId} {zs:List Value} (hg:o.guard=none) (hd:o.dst=some d) (hn:d<n) (ho:o.op= .alloc T) (hz:A7 P T=some zs) (h1':zs.all (·.oneCell')=true):
  C5 P M0 w0 S n j (SR.c BC) ⟨d,EG T (zs.map is)⟩ o E (Cp.ex fun b=>ptr b 0):=by
 refine ⟨hg,fun M w a rs IG he hI hj=> ?_⟩
 have h1:∀c∈zs,c.oneCell'=true:=fun c hc=>List.all_eq_true.1 h1' c hc
 obtain ⟨z,GH,QS⟩:=OZ hz w
 have hrun:(execOp a.eval o).run P w= .ok (.value (.pointer (some ⟨w.heap.size,0,none⟩))) (w.alloc (.cells zs.toArray T)):=by simp [execOp,ho,Instr.alloc,GH,newVar,newRow,←QS]
 rw [hrun]
 have hb:Below w.heap.size w (w.alloc (.cells zs.toArray T)):=(Below.refl _ _).alloc (Nat.le_refl _) _
 have h2:=Ext.below (M:=M) hb
 have DI:Ext M w (fun b o=>M b o∨b=w.heap.size) (w.alloc (.cells zs.toArray T)):=by
  refine ⟨h2.size,fun a v hc hm=>⟨fun hx=> ?_,(h2.keep a v hc hm).2⟩,fun b o ho hp hm=>⟨fun hx=> ?_,(h2.obj b o ho hp hm).2⟩⟩
  ·
   rcases hx with hx|hx
   · exact hm hx
   · have:=C0 hc;omega
  ·
   rcases hx with hx|hx
   · exact hm hx
   · subst hx;simp at ho
 have hs1:(w.alloc (.cells zs.toArray T)).heap.size=w.heap.size+1:=by simp
 have hat:(SR.at_ (a.put o.dst (.pointer (some ⟨w.heap.size,0,none⟩))) ⟨d,EG T (zs.map is)⟩)=AB true w.heap.size T (zs.map is):=by unfold SR.at_ Slot.val;dsimp only;rw [hd,BG (by rw [IG];exact hn)];rfl
 refine ⟨fun b o=>M b o∨b=w.heap.size,⟨_,rfl⟩,DI,?_⟩
 rw [hat]
 refine hI.replace hj DI hb.os hb.tape hb.output (fun k hk _=>hb.block k hk) rfl (fun b o hm _=> .inl hm) (fun b o hx=> ?_) ?_ rfl (fun b hbk=> ?_)
 ·
  rcases hx with hx|hx
  · have:=hI.bd _ _ hx;omega
  · omega
 · refine ⟨fun o=> .inr rfl,zs,heap_alloc_new w _,I5 _ _ _,h1⟩
 ·
  have DL:some w.heap.size=some b:=hbk
  injection DL with e1
  subst e1
  exact ⟨by rw [hs1];omega,.inr (Nat.le_refl _)⟩
theorem Jx {t:TypeId} {s:Tmp} {y:Operand} {j m:Nat} {T:TypeId} {ps qs:List Pr} (hg:o.guard=none) (hd:o.dst=none) (ho:o.op= .store t (.tmp s) y) (hx:E.lookup s=some (Cp.ex fun b=>ptr b 0)) (hy:VL E y (CI qs))
  (hz:Af P t=some m) (hm:qs.length=m) (hl:ps.length=m):C5 P M0 w0 S n j ⟨s,EG T ps⟩ ⟨s,EG T qs⟩ o E any:=by
 refine ⟨hg,fun M w a rs hsz he hI hj=> ?_⟩
 have hxv:VL E (.tmp s) (Cp.ex fun b=>ptr b 0):=⟨_,hx,Pr.le_refl _⟩
 obtain ⟨b,h1'⟩:=hxv.ev he (show (Operand.tmp s)∈o.op.operands.toList by simp [ho,Op.operands])
 have h1:a.eval (.tmp s)= .pointer (some ⟨b,0,none⟩):=h1'
 have h1t:a.tmps.getD s undef= .pointer (some ⟨b,0,none⟩):=h1
 have hj':rs[j]? =some (AB true b T ps):=by
  rw [hj];show some (EG T ps (a.tmps.getD s undef))=_;rw [h1t];rfl
 obtain ⟨h2,h3⟩:=hy.ev he (show y∈o.op.operands.toList by simp [ho,Op.operands])
 obtain ⟨⟨_,cs,h4,h5,h6⟩,_⟩:=hI.hold _ (List.mem_of_getElem? hj')
 have g_:=h5.length
 have Z9:=h2.length
 have hcells:(a.eval y).cells.size=m:=by rw [←hm,←Z9];simp
 have hrun:(storeCells ⟨b,0,none⟩ (a.eval y).cells.toList 0).run P w= .ok () (w.setRow b (cs.take 0++(a.eval y).cells.toList++cs.drop (0+m)).toArray):=by
  have:=run_storeCells_at (P:=P) b 0 T (a.eval y).cells.toList 0 cs.toArray w h4 (by simp;omega) h3
  simpa [hcells] using this
 have jP:cs.drop (0+m)=[]:=List.drop_eq_nil_of_le (by omega)
 rw [jP,List.take_zero,List.nil_append,List.append_nil] at hrun
 have DM:(execOp a.eval o).run P w= .ok .skip (w.setRow b (a.eval y).cells.toList.toArray):=by
  simp only [execOp,ho,h1,Instr.storeAt,Instr.sureAddr,storeVar]
  simp [Bf hz,hcells,hrun]
 rw [DM]
 obtain ⟨h7,h8⟩:=Al.write (qs:=qs) (cs:=(a.eval y).cells.toList) hI hj' h2 h3
 refine ⟨M,trivial,h8,?_⟩
 have hat:(SR.at_ (a.put o.dst undef) ⟨s,EG T qs⟩)=AB true b T qs:=by
  rw [hd];show EG T qs (a.tmps.getD s undef)=_;rw [h1t];rfl
 rw [hat];exact h7
theorem Fin.TW {Q:Exit→Act→World→Prop} {x:Exit} (s j:Nat) {v:Value} {f:Value→Ae} (g:Nat→Ae) (hs:E.lookup s=some (Ab v (Cp.ex fun b=>ptr b 0))) (hi:rs[j]? =some (f v)) (hf:∀b,f (.pointer (some ⟨b,0,none⟩))=g b)
  (k:∀b,Fin n ((s,ptr b 0)::E) (Hp M0 w0 S (rs.set j (g b))) Q x):Fin n E (Hp M0 w0 S rs) Q x:=by
 intro a w hst
 obtain ⟨M,h1,h2,he,h4⟩:=hst
 obtain ⟨h5,b,h6⟩:=he s _ hs
 have hv:v= .pointer (some ⟨b,0,none⟩):=by rw [←h5];exact h6
 have hj:rs.set j (g b)=rs:=by
  have hjl:j<rs.length:=by rcases Nat.lt_or_ge j rs.length with h|h;exact h;rw [List.getElem?_eq_none h] at hi;cases hi
  rw [←hf b,←hv]
  rw [List.getElem?_eq_getElem hjl] at hi
  simp at hi
  rw [←hi,List.set_getElem_self]
 refine k b a w ⟨M,h1,h2,?_,by rw [hj];exact h4⟩
 intro t q hq
 simp only [List.lookup] at hq
 by_cases ht:t=s
 · subst ht;simp at hq;subst hq;exact h6
 · rw [show (t==s)=false by simpa using ht] at hq;exact he t q hq
end
section
variable {P:Program} {L:Lg P} {n:Fm} {fz:Nat} {E:Env} {M0:Av} {w0:World} {S:Nat→Prop} {rs:List Ae} {o:Oper}
def Bu (e:TypeId) (sz:Nat) (rows:List (List Pr)) (v:Value):Ae where
 blk:=match v with| .slice (some a) _ _=>some a.block|_=>none
 new:=true
 h M w:=(rows=[]∧v= .slice none 0 0)∨(Cb e sz rows v).h M w
 st M w M' w' he hk h:=h.imp id fun h=>(Cb e sz rows v).st M w M' w' he hk h
theorem Tr.dF {Q:Exit→Act→World→Prop} {c:Code} (e:TypeId) (sz:Nat) (k:Tr L n E (Hp M0 w0 S (Bu e sz [] (.slice none 0 0)::rs)) c Q):Tr L n E (Hp M0 w0 S rs) c Q:=
 Tr.conv (fun _ _ ⟨M,h1,h2,h3,h4⟩=>⟨M,h1,h2,h3,Al.Hj h4 (r:=Bu e sz [] (.slice none 0 0)) rfl (Or.inl ⟨rfl,rfl⟩)⟩) k
theorem SN {M:Av} {w:World} {t ty e:TypeId} {sz bytes:Nat} {zs:List Value} {rows rows':List (List Pr)} {v u:Value} {j:Nat} (ht:P.underlying t=some (.slice e)) (hz:Af P e=some sz) (hby:Bb P e=some bytes) (DV:A7 P e=some zs) (hzl:zs.length=sz) (hone:zs.all (·.oneCell')=true) (hsz:0<sz)
  (h:Al M0 w0 S rs M w) (hj:rs[j]? =some (Bu e sz rows v)) (hl:∀r∈rows,r.length=sz) (hu:(slice sz rows').h M w u) (hpos:0<rows'.length) (EP:rows.length+rows'.length≤maxLen) (hfit:(rows.length+rows'.length)*bytes≤140737488355328):
  ∃v' w' M',(Builtin.append_ #[t,t] ty #[v,u]).run P w= .ok v' w'∧(lens (rows.length+rows'.length)).h M' w' v'∧Ext M w M' w'∧Al M0 w0 S (rs.set j (Bu e sz (rows++rows') v')) M' w':=by
 have hjl:j<rs.length:=by rcases Nat.lt_or_ge j rs.length with h|h;exact h;rw [List.getElem?_eq_none h] at hj;cases hj
 rcases (h.hold _ (List.mem_of_getElem? hj)).1 with ⟨rfl,rfl⟩|dG
 ·
  have h1:=h.CU (r':=BC) hj rfl rfl trivial
  have fu:(rs.set j BC)[j]? =some BC:=List.getElem?_set_self hjl
  obtain ⟨v',w',M',hrun,h2,h3,h4⟩:=Yn (ty:=ty) ht hz hby DV hzl hone hsz h1 fu hu hpos (by simpa using EP) (by simpa using hfit)
  rw [List.set_set] at h4
  have h5:=h4.CU (r':=Bu e sz ([]++rows') v') (List.getElem?_set_self hjl) rfl rfl (.inr (h4.hold _ (List.mem_of_getElem? (List.getElem?_set_self hjl))).1)
  rw [List.set_set] at h5
  exact ⟨v',w',M',hrun,by simpa using h2,h3,h5⟩
 ·
  obtain ⟨b,cap,spare,rfl,hnc,hcm,hsp,VP⟩:=dG
  have hC:=h.CU (r':=AB true b e (rows.flatten++spare.map is)) hj rfl rfl VP
  have mZ:(rs.set j (AB true b e (rows.flatten++spare.map is)))[j]? =some (AB true b e (rows.flatten++spare.map is)):=List.getElem?_set_self hjl
  obtain ⟨⟨hMb,cs,aT,hcs,VQ⟩,fU⟩:=hC.hold _ (List.mem_of_getElem? mZ)
  have hfl:=CM hl
  have aD:=hcs.length
  rw [List.length_append,hfl,List.length_map,hsp,←Nat.add_mul,show rows.length+(cap-rows.length)=cap by omega] at aD
  unfold Af at hz
  unfold Bb at hby
  unfold A7 at DV
  cases hi:P.info? e with
  |none=>rw [hi] at hz;cases hz
  |some i=>
   rw [hi] at hz hby DV
   simp only [Option.map_some,Option.some.injEq,Option.map_eq_some_iff] at hz hby DV
   obtain ⟨z,R9,DV⟩:=DV
   have Uw:z.cells.size=sz:=by rw [←hzl,←DV];simp
   obtain ⟨A',c',rfl,bY,QX,Xl,E6⟩:=hu
   have Nj:(slice sz rows').h M w (.slice A' rows'.length c'):=⟨A',c',rfl,bY,QX,Xl,E6⟩
   obtain ⟨Mo,rfl⟩:∃Mo,A'=some Mo:=by
    obtain ⟨_,b,hb,_⟩:=E6 0 _ (List.getElem?_eq_getElem hpos)
    exact ⟨b,hb⟩
   obtain ⟨news,My,hcell⟩:=EX hsz Nj
   have VR:=My.1
   have hnews:=My.hl hsz
   have hT:HL M w rows.flatten (cs.take (rows.length*sz)):=by
    have:=hcs.take (rows.length*sz)
    rwa [←hfl,List.take_left,hfl] at this
   have hne:(.slice (some ⟨b,0,none⟩) (rows++rows').length cap:Value)= .slice (some ⟨b,0,none⟩) (rows.length+rows'.length) cap:=by rw [List.length_append]
   by_cases hroom:rows.length+rows'.length≤cap
   ·
    have hle:(rows.length+rows'.length)*sz≤cap*sz:=Nat.mul_le_mul_right sz hroom
    rw [Nat.add_mul] at hle
    have hrun:=run_append_room (P:=P) (w:=w) t ty e i ht hi b rows.length cap cs.toArray aT Mo rows'.length c' news (by rw [hz];exact VR) (fun k u hk=>(hcell k u hk).1) My.2.1 hroom (by rw [hz,VR];simp;omega)
    rw [hz,VR] at hrun
    have hD:HL M w ((spare.drop (rows'.length*sz)).map is) (cs.drop (rows.length*sz+rows'.length*sz)):=by
     have:=hcs.drop (rows.length*sz+rows'.length*sz)
     have e1:(rows.flatten++spare.map is).drop (rows.length*sz+rows'.length*sz)=(spare.drop (rows'.length*sz)).map is:=by rw [←hfl,←List.drop_drop,List.drop_left,List.map_drop]
     rwa [e1] at this
    obtain ⟨hW,hX⟩:=Al.write (qs:=rows.flatten++rows'.flatten++(spare.drop (rows'.length*sz)).map is) (cs:=cs.take (rows.length*sz)++news++cs.drop (rows.length*sz+rows'.length*sz)) hC mZ ((hT.app hnews).app hD) (fun c hc=>by
     simp only [List.mem_append] at hc
     rcases hc with (hc|hc)|hc
     · exact VQ c (List.mem_of_mem_take hc)
     · exact My.2.1 c hc
     · exact VQ c (List.mem_of_mem_drop hc))
    rw [List.set_set] at hW
    refine ⟨_,_,M,hrun,⟨_,_,rfl⟩,hX,?_⟩
    have hW2 := hW.CU (r' := Bu e sz (rows ++ rows') (.slice (some ⟨b, 0, none⟩) (rows.length + rows'.length) cap)) (List.getElem?_set_self hjl) rfl rfl (.inr ⟨b, cap, spare.drop (rows'.length * sz), hne.symm, by rw [List.length_append]; exact hroom, hcm, by
     rw [List.length_drop,hsp,List.length_append,←Nat.sub_mul];congr 1;omega,by
     rw [List.flatten_append];exact (hW.hold _ (List.mem_of_getElem? (List.getElem?_set_self hjl))).1⟩)
    rw [List.set_set] at hW2
    exact hW2
   ·
    have hg:cap<rows.length+rows'.length:=by omega
    have holds:∀k u,(cs.take (rows.length*sz))[k]? =some u→w.cell? ((⟨b,0,none⟩:Addr).add k)=some u:=by
     intro k u hk
     have hk2:cs[k]? =some u:=by
      rw [List.getElem?_take] at hk
      split at hk
      · exact hk
      · cases hk
     rw [EC]
     simp [World.cell?,aT,hk2]
    have hto:(cs.take (rows.length*sz)).length=rows.length*sz:=by rw [List.length_take,aD];exact Nat.min_eq_left (Nat.mul_le_mul_right sz hnc)
    have hrun:=run_append_grow (P:=P) (w:=w) t ty e i z ht hi R9 ⟨b,0,none⟩ rows.length cap (cs.take (rows.length*sz)) (by rw [hz];exact hto) holds Mo rows'.length c' news (by rw [hz];exact VR) (fun k u hk=>(hcell k u hk).1) hg (by unfold maxLen at EP;omega) (by rw [hby];exact growslice_fits hg hfit)
    generalize hcap:grownCap w (rows.length+rows'.length) cap e=cap' at hrun
    have hge:rows.length+rows'.length≤cap':=by rw [←hcap];exact grownCap_ge _ _ _ _
    have hle:cap'≤maxLen:=by rw [←hcap];exact grownCap_le_maxLen _ _ _ _ EP
    generalize MX:Builtin.zeroCells z.cells (cap'-(rows.length+rows'.length))=zc at hrun
    have hzs:zc.size=(cap'-(rows.length+rows'.length))*sz:=by rw [←MX,size_zeroCells,Uw]
    have jO:∀c∈zc.toList,c.oneCell'=true:=by rw [←MX];exact Fo DV hone
    generalize dH:((cs.take (rows.length*sz)).toArray++news.toArray++zc)=arr at hrun
    have Fy:arr.toList=cs.take (rows.length*sz)++news++zc.toList:=by rw [←dH];simp
    have hb:Below w.heap.size w (w.drew.alloc (.cells arr e)):=((Below.refl _ _).drew).alloc (Nat.le_refl _) _
    have h2:=Ext.below (M:=M) hb
    have DI:Ext M w (fun b o=>M b o∨b=w.heap.size) (w.drew.alloc (.cells arr e)):=by
     refine ⟨h2.size,fun a v hc hm=>⟨fun hx=> ?_,(h2.keep a v hc hm).2⟩,fun b o ho hp hm=>⟨fun hx=> ?_,(h2.obj b o ho hp hm).2⟩⟩
     ·
      rcases hx with hx|hx
      · exact hm hx
      · have:=C0 hc;omega
     ·
      rcases hx with hx|hx
      · exact hm hx
      · subst hx;simp at ho
    have hs1:(w.drew.alloc (.cells arr e)).heap.size=w.heap.size+1:=by simp
    refine ⟨_,_,fun b o=>M b o∨b=w.heap.size,hrun,⟨_,_,rfl⟩,DI,?_⟩
    refine h.replace hj DI hb.os hb.tape hb.output (fun k hk _=>hb.block k hk) rfl (fun b o hm _=> .inl hm) (fun b o hx=> ?_) ?_ rfl (fun b hbk=> ?_)
    ·
     rcases hx with hx|hx
     · have:=h.bd _ _ hx;omega
     · omega
    ·
     refine .inr ⟨w.heap.size,cap',zc.toList,by rw [List.length_append],by rw [List.length_append];exact hge,hle,by rw [List.length_append];simpa using hzs,fun o=> .inr rfl,arr.toList,?_,?_,?_⟩
     ·
      have hh:(w.drew.alloc (.cells arr e)).heap[w.heap.size]? =some (.cells arr e (0,0)):=heap_alloc_new w.drew _
      rw [hh]
     · rw [Fy,List.flatten_append];exact ((hT.st DI).app ((My.st DI).hl hsz)).app (I5 _ _ _)
     ·
      intro c hc
      rw [Fy] at hc
      simp only [List.mem_append] at hc
      rcases hc with (hc|hc)|hc
      · exact VQ c (List.mem_of_mem_take hc)
      · exact My.2.1 c hc
      · exact jO c hc
    ·
     have DL:some w.heap.size=some b:=hbk
     injection DL with e1
     subst e1
     exact ⟨by rw [hs1];omega,.inr (Nat.le_refl _)⟩
theorem F7 {t e:TypeId} {x y:Operand} {sz bytes d:Nat} {zs:List Value} {rows rows':List (List Pr)} {v:Value} {p:Pr} {j:Nat} (hg:o.guard=none) (hd:o.dst=some d) (hn:d<n) (ho:o.op= .call { callee:= .builtin .append,args:= #[x,y],argTypes:= #[t,t] })
  (ht:P.underlying t=some (.slice e)) (hz:Af P e=some sz) (hby:Bb P e=some bytes) (DV:A7 P e=some zs) (hzl:zs.length=sz) (hone:zs.all (·.oneCell')=true) (hsz:0<sz)
  (hx:VL E x (Ab v p)) (hy:VL E y (slice sz rows')) (hl:∀r∈rows,r.length=sz) (hpos:0<rows'.length) (EP:rows.length+rows'.length≤maxLen) (hfit:(rows.length+rows'.length)*bytes≤140737488355328):C5 P M0 w0 S n j (SR.c (Bu e sz rows v)) ⟨d,Bu e sz (rows++rows')⟩ o E (lens (rows.length+rows'.length)):=by
 refine ⟨hg,fun M w a rs IG he hI hj=> ?_⟩
 have h1:a.eval x=v:=(hx.ev he (by simp [ho,Op.operands,Call.operands])).1
 have h2:=hy.ev he (by simp [ho,Op.operands,Call.operands])
 obtain ⟨v',w',M',hrun,h3,h4,h5⟩:=SN (ty:=o.type) ht hz hby DV hzl hone hsz hI hj hl h2 hpos EP hfit
 have DM:(execOp a.eval o).run P w= .ok (.value v') w':=by simp [execOp,ho,resolve,invoke,builtin,h1,hrun]
 rw [DM]
 refine ⟨M',h3,h4,?_⟩
 have:(SR.at_ (a.put o.dst v') ⟨d,Bu e sz (rows++rows')⟩)=Bu e sz (rows++rows') v':=by unfold SR.at_ Slot.val;dsimp only;rw [hd,BG (by rw [IG];exact hn)]
 rw [this];exact h5
theorem Al.jQ {M:Av} {w:World} {sz:Nat} {e:TypeId} {rows:List (List Pr)} {v:Value} {j:Nat} (h:Al M0 w0 S rs M w) (hj:rs[j]? =some (Bu e sz rows v)) (hl:∀r∈rows,r.length=sz):
  ∃M',Ext M w M' w∧Al M0 w0 S (rs.set j (Ax e sz v)) M' w∧(slice sz rows).h M' w v:=by
 have hjl:j<rs.length:=by rcases Nat.lt_or_ge j rs.length with h|h;exact h;rw [List.getElem?_eq_none h] at hj;cases hj
 rcases (h.hold _ (List.mem_of_getElem? hj)).1 with ⟨rfl,rfl⟩|dG
 · exact ⟨M,Ext.refl _ _,h.CU hj rfl rfl (by intro a n c hv;cases hv),AV sz M w _ rfl⟩
 ·
  obtain ⟨b,cap,spare,rfl,hnc,hcm,hsp,VP⟩:=dG
  have hC:=h.CU (r':=AB true b e (rows.flatten++spare.map is)) hj rfl rfl VP
  obtain ⟨M',h1,h2,h3⟩:=Al.fm hC (List.getElem?_set_self hjl) hl hnc hcm (by rw [List.length_map];exact hsp)
  rw [List.set_set] at h2
  exact ⟨M',h1,h2,h3⟩
end
section
variable {P:Program} {L:Lg P} {n:Fm} {fz:Nat} {E:Env} {M0:Av} {w0:World} {S:Nat→Prop} {rs:List Ae} {o:Oper} {ops:Array Oper} {r:List Oper}
def jR (P:Program) (f:FuncId) (args:List Pr) (res:Pr) (r:Ae) (r':Ae) (r2:Ae):Prop:=Entry P f∧∀M0 w0 S rs M w vs,Al M0 w0 S (r::r2::rs) M w→HL M w args vs→
 Calls P f vs.toArray w fun e w'=>∃v M',e= .returned v∧res.h M' w' v∧Ext M w M' w'∧Al M0 w0 S (r'::r2::rs) M' w'
theorem jR.of {f : FuncId} {g : Func} {c : Code} {ps : List Pr} {res : Pr} {R R' R2 : Ae} (hf : P.funcs[f]? = some g) (hb : g.body = some c) (hname : (g.name == "runtime.NumGoroutine") = false) (hlen : ps.length ≤ g.ntmps)
  (h:∀M0 w0 S rs M1 w1,Tr (Rt P) g.ntmps (IC 0 ps) (Hp M0 w0 S (R::AZ M1 w1::R2::rs)) c (bodyPost P g (LW M0 w0 S (R2::rs) M1 w1 res (fun _=>R')))):jR P f ps res R R' R2:=by
 refine ⟨⟨g,hf,hname,by rw [hb];rfl⟩,fun M0 w0 S rs M w vs hI hv=> ?_⟩
 refine calls_of_wp hf hb (h M0 w0 S rs M w _ _ ⟨M,?_,rfl,EU hv,?_⟩)
 ·
  have:=hv.length
  simp [this];omega
 · exact Al.perm (List.Perm.swap _ _ _) (Al.Hj hI (r:=AZ M w) rfl (Ext.refl _ _))
end
abbrev IZ (k:IntKind):Pr:=Cp.ex fun i:Int=>is (.int k i)
theorem Br (k:IntKind) (i:Int):Pr.le (is (.int k i)) (IZ k):=fun _ _ _ h=>⟨i,h⟩
section
variable {P:Program} {L:Lg P} {I:B6} {o:Oper} {E:Env}
theorem Yt {op:BinOp} {t u:TypeId} {x y:Operand} {k:IntKind} (hop:(op== .xor||op== .or)=true) (ho:o.op= .binOp op t x y u) (hx:VL E x (IZ k)) (hy:VL E y (IZ k)):AR P I o E (IZ k):=
 AR.same fun M w a he _=>by
  obtain ⟨m,h1⟩:=hx.ev he (by simp [ho,Op.operands])
  obtain ⟨n,h2⟩:=hy.ev he (by simp [ho,Op.operands])
  have h1:a.eval x= .int k m:=h1
  have h2:a.eval y= .int k n:=h2
  cases op<;>simp at hop<;>exact ⟨_,by simp [execOp,ho,h1,h2,eqGuard,binOp,Op.intBits];rfl,_,rfl⟩
end
theorem Mz {β:Type} {f:β→List Pr} {l:List β} {qs:List Pr} {sz:Nat} (hf:∀x,(f x).length=sz) {i:Int} (h:i.toNat<l.length):((((l.map f).flatten++qs).drop (0+i.toNat*sz)).take sz)=f (l[i.toNat]'h):=by
 rw [Nat.zero_add];exact VO hf (List.getElem?_eq_getElem h)
theorem Lw {β:Type} {f:β→List Pr} {sz:Nat} (hf:∀x,(f x).length=sz) {l:List β} {qs:List Pr} {i:Int} {x:β} (h:i.toNat<l.length):((l.map f).flatten++qs).take (0+i.toNat*sz)++f x++((l.map f).flatten++qs).drop (0+i.toNat*sz+sz)=((l.set i.toNat x).map f).flatten++qs:=by
 rw [Nat.zero_add];exact Mw hf h
theorem Lx {β:Type} {l:List β} {i j:Int} (hi:i.toNat<l.length) (hj:j.toNat<l.length):((l.set i.toNat (l[j.toNat]'hj)).set j.toNat (l[i.toNat]'hi)).Perm l:=List.set_set_perm hi hj
section
variable {P:Program} {L:Lg P} {n:Fm} {fz:Nat} {E:Env} {M0:Av} {w0:World} {S:Nat→Prop} {rs:List Ae} {o:Oper} {β:Type} {b:Nat} {e:TypeId} {f:β→List Pr} {qs:List Pr} {Φ:List β→Prop}
instance (priority:=300) jS (b:Bool) (p:Prop) [h:C6 b false p]:C6 (!b) true p:=⟨fun e=>h.Dj (by simpa using e)⟩
instance (priority:=300) jT (b:Bool) (p:Prop) [h:C6 b true p]:C6 (!b) false p:=⟨fun e=>h.Dj (by simpa using e)⟩
end
end Cp
namespace Cp
open Go.Sort
section
variable {β:Type} [Inhabited β] {c:β×β→Int} {st:List β} {a b i j:Int}
def fy (c:β×β→Int) (x y:β):Bool:=decide (c (x,y)<0)
theorem gx (h:i.toNat<st.length):st.toArray[i.toNat]! =st[i.toNat]:=by simp [h]
theorem sw (hi:i.toNat<st.length) (hj:j.toNat<st.length):((st.set i.toNat (st[j.toNat]'hj)).set j.toNat (st[i.toNat]'hi)).toArray=swp st.toArray i.toNat j.toNat:=by
 unfold swp
 rw [gx hi,gx hj]
 simp [Array.setIfInBounds_def,hi,hj]
omit [Inhabited β] in
theorem jU {x y:β} (h:¬c (x,y)<0):fy c x y=false:=decide_eq_false h
variable {hi F r:Int}
variable {lt:β→β→Bool} {a0 b0 m n:Nat} {l s s':Array β}
structure PS (lt:β→β→Bool) (a0 b0 a b:Nat) (l s:Array β):Prop where
 ha:a0≤a
 hab:a≤b
 hb:b≤b0
 hp:PermIn a0 b0 l s
 below:Below lt a b s
 out:∀i j,a0≤i→i<j→j<b0→(i<a∨b≤j)→lt s[j]! s[i]! =false
theorem PS.perm (h:PS lt a0 b0 m n l s) (hs:b0≤l.size) (hq:PermIn m n s s'):PS lt a0 b0 m n l s':=by
 have hsz:s.size=l.size:=h.hp.1
 have aC:n≤s.size:=by have:=h.hb;omega
 refine ⟨h.ha,h.hab,h.hb,permIn_trans _ _ _ _ _ h.hp (permIn_mono _ _ _ _ _ _ h.ha h.hb (by omega) hq),Below.permA permIn_all aC h.below hq,fun i j h1 h2 h3 h4=> ?_⟩
 have hm:=h.hab
 by_cases hi:m≤i∧i<n
 ·
  have hj:n≤j:=by omega
  rw [hq.2.1 j (.inr hj)]
  exact permIn_all s s' m n (fun x=>lt s[j]! x=false) aC hq (fun k hk1 hk2=>h.out k j (by have:=h.ha;omega) (by omega) h3 (.inr hj)) i hi.1 hi.2
 ·
  rw [hq.2.1 i (by omega)]
  by_cases hj:m≤j∧j<n
  · exact permIn_all s s' m n (fun x=>lt x s[i]! =false) aC hq (fun k hk1 hk2=>h.out i k h1 (by omega) (by have:=h.hb;omega) (.inl (by omega))) j hj.1 hj.2
  · rw [hq.2.1 j (by omega)];exact h.out i j h1 h2 h3 h4
theorem PS.done (h:PS lt a0 b0 m n l s) (hs:SortedIn lt m n s):PermIn a0 b0 l s∧SortedIn lt a0 b0 s:=by
 refine ⟨h.hp,fun i j h1 h2 h3=> ?_⟩
 by_cases hh:i<m∨n≤j
 · exact h.out i j h1 h2 h3 hh
 · exact hs i j (by omega) h2 (by omega)
theorem PS.eq (hw:SWO lt) (h:PS lt a0 b0 m n l s) (hs:b0≤l.size) {pv:β} {k:Nat} (hm:0<m) (Up:lt s[m-1]! pv=false) (hk:m<k) (hkn:k≤n) (hq:PermIn m n s s') (h1:∀i,m≤i→i<k→lt pv s'[i]! =false) (h2:∀i,k≤i→i<n→lt pv s'[i]! =true):
  PS lt a0 b0 k n l s':=by
 have h':=h.perm hs hq
 have hle:∀j,m≤j→j<n→lt s'[j]! pv=false:=by
  intro j fu hj2
  by_cases hjk:k≤j
  · exact hw.asym (h2 j hjk hj2)
  ·
   have hb:=h'.below
   rcases hb with hb|hb
   · omega
   ·
    have hb:=hb j fu hj2
    rw [hq.2.1 (m-1) (.inl (by omega))] at hb
    exact hw.ntrans _ _ _ hb Up
 have key:∀i j,m≤i→i<k→m≤j→j<n→lt s'[j]! s'[i]! =false:=fun i j ha hb hc hd=>hw.ntrans _ _ _ (hle j hc hd) (h1 i ha hb)
 refine ⟨by have:=h.ha;omega,hkn,h.hb,h'.hp,.inr fun i hi1 hi2=>key (k-1) i (by omega) (by omega) (by omega) hi2,fun i j g1 g2 g3 g4=> ?_⟩
 by_cases hh:i<m∨n≤j
 · exact h'.out i j g1 g2 g3 hh
 · exact key i j (by omega) (by omega) (by omega) (by omega)
structure VS (lt:β→β→Bool) (m n k:Nat) (s:Array β):Prop where
 h1:m≤k
 h2:k<n
 lo:∀i,m≤i→i<k→lt s[i]! s[k]! =true
 up:∀i,k<i→i<n→lt s[i]! s[k]! =false
theorem PS.left (hw:SWO lt) {k:Nat} (h:PS lt a0 b0 m n l s) (hs:b0≤l.size) (hp:VS lt m n k s) (hq:PermIn m k s s') (me:SortedIn lt m k s'):PS lt a0 b0 (k+1) n l s':=by
 obtain ⟨h1,h2,lo,up⟩:=hp
 have hsz:s.size=l.size:=h.hp.1
 have hks:k≤s.size:=by have:=h.hb;omega
 have OX:PermIn m n s s':=permIn_mono _ _ _ _ _ _ (Nat.le_refl _) (by omega) (by have:=h.hb;omega) hq
 have h':=h.perm hs OX
 have ek:s'[k]! =s[k]! :=hq.2.1 k (.inr (Nat.le_refl _))
 have lo':∀i,m≤i→i<k→lt s'[i]! s[k]! =true:=fun i g1 g2=>permIn_all s s' m k (fun x=>lt x s[k]! =true) hks hq lo i g1 g2
 have up':∀i,k<i→i<n→lt s'[i]! s[k]! =false:=fun i g1 g2=>by rw [hq.2.1 i (.inr (by omega))];exact up i g1 g2
 refine ⟨by have:=h.ha;omega,by omega,h.hb,h'.hp,.inr fun i g1 g2=> ?_,fun i j g1 g2 g3 g4=> ?_⟩
 · rw [show k+1-1=k by omega,ek];exact up' i (by omega) g2
 ·
  by_cases hh:i<m∨n≤j
  · exact h'.out i j g1 g2 g3 hh
  ·
   rcases Nat.lt_trichotomy i k with hik|hik|hik
   ·
    rcases Nat.lt_trichotomy j k with hjk|hjk|hjk
    · exact me i j (by omega) g2 hjk
    · subst hjk;rw [ek];exact hw.asym (lo' i (by omega) hik)
    · exact hw.ntrans _ _ _ (up' j hjk (by omega)) (hw.asym (lo' i (by omega) hik))
   · subst hik;rw [ek];exact up' j g2 (by omega)
   · omega
theorem PS.right (hw:SWO lt) {k:Nat} (h:PS lt a0 b0 m n l s) (hs:b0≤l.size) (hp:VS lt m n k s) (hq:PermIn (k+1) n s s') (me:SortedIn lt (k+1) n s'):PS lt a0 b0 m k l s':=by
 obtain ⟨h1,h2,lo,up⟩:=hp
 have hsz:s.size=l.size:=h.hp.1
 have aC:n≤s.size:=by have:=h.hb;omega
 have OX:PermIn m n s s':=permIn_mono _ _ _ _ _ _ (by omega) (Nat.le_refl _) aC hq
 have h':=h.perm hs OX
 have ek:s'[k]! =s[k]! :=hq.2.1 k (.inl (by omega))
 have lo':∀i,m≤i→i<k→lt s'[i]! s[k]! =true:=fun i g1 g2=>by rw [hq.2.1 i (.inl (by omega))];exact lo i g1 g2
 have up':∀i,k<i→i<n→lt s'[i]! s[k]! =false:=fun i g1 g2=>permIn_all s s' (k+1) n (fun x=>lt x s[k]! =false) aC hq (fun i q1 q2=>up i (by omega) q2) i (by omega) g2
 refine ⟨h.ha,h1,by have:=h.hb;omega,h'.hp,?_,fun i j g1 g2 g3 g4=> ?_⟩
 ·
  rcases h'.below with hb|hb
  · exact .inl hb
  · exact .inr fun i q1 q2=>hb i q1 (by omega)
 ·
  by_cases hh:i<m∨n≤j
  · exact h'.out i j g1 g2 g3 hh
  ·
   rcases Nat.lt_trichotomy i k with hik|hik|hik
   ·
    rcases Nat.lt_trichotomy j k with hjk|hjk|hjk
    · omega
    · subst hjk;rw [ek];exact hw.asym (lo' i (by omega) hik)
    · exact hw.ntrans _ _ _ (up' j hjk (by omega)) (hw.asym (lo' i (by omega) hik))
   · subst hik;rw [ek];exact up' j g2 (by omega)
   · exact me i j (by omega) g2 (by omega)
end
section
variable {β:Type} [Inhabited β] {c:β×β→Int} {st:List β}
def Adj (c:β×β→Int) (a b:Int) (l:List β):Prop:=∀k,a.toNat<k→k<b.toNat→fy c l.toArray[k]! l.toArray[k-1]! =false
theorem Adj.go {a i k:Int} (h:Adj c a i st) (h0:0≤a) (ha:a<i) (hk:k=i-1) (hi:i.toNat<st.length) (hk':k.toNat<st.length) (hc:0≤c (st[i.toNat]'hi,st[k.toNat]'hk')):Adj c a (i+1) st:=fun m h1 h2=>by
 rcases Nat.lt_or_ge m i.toNat with hm|hm
 · exact h m h1 hm
 ·
  have e:m=i.toNat:=by omega
  subst e
  rw [show i.toNat-1=k.toNat by omega,gx hi,gx hk'];exact jU (by omega)
end
section
variable {β:Type} [Inhabited β]
def Gf (a b:Int) (l st:List β):Prop:=PermIn a.toNat b.toNat l.toArray st.toArray
def aU (c:β×β→Int) (a b:Int) (l st:List β):Prop:=PermIn a.toNat b.toNat l.toArray st.toArray∧SortedIn (fy c) a.toNat b.toNat st.toArray
theorem Gf.len {a b:Int} {l st:List β} (h:Gf a b l st):st.length=l.length:=by have:=h.1;simpa using this
theorem aU.len {c:β×β→Int} {a b:Int} {l st:List β} (h:aU c a b l st):st.length=l.length:=by have:=h.1.1;simpa using this
def aV (c:β×β→Int) (hi first lo:Int) (l st:List β):Prop:=st.length=l.length∧st.toArray=siftDown (fy c) hi.toNat first.toNat lo.toNat l.toArray
theorem aV.len {c:β×β→Int} {hi first lo:Int} {l st:List β} (h:aV c hi first lo l st):st.length=l.length:=h.1
abbrev PE (c:β×β→Int) (a b pv:Int) (l:List β):Nat×Array β:=partitionEqual (fy c) l.toArray a.toNat b.toNat pv.toNat
abbrev PA (c:β×β→Int) (a b pv:Int) (l:List β):Nat×Bool×Array β:=partition (fy c) l.toArray a.toNat b.toNat pv.toNat
def aW (c:β×β→Int) (a b pv:Int) (l st:List β):Prop:=st.length=l.length∧st.toArray=(PE c a b pv l).2
def aX (c:β×β→Int) (a b pv:Int) (l st:List β):Prop:=st.length=l.length∧st.toArray=(PA c a b pv l).2.2
theorem aW.len {c:β×β→Int} {a b pv:Int} {l st:List β} (h:aW c a b pv l st):st.length=l.length:=h.1
theorem aX.len {c:β×β→Int} {a b pv:Int} {l st:List β} (h:aX c a b pv l st):st.length=l.length:=h.1
theorem Gf.refl (a b:Int) (l:List β):Gf a b l l:=permIn_refl _ _ _
theorem Gf.swap {a b i j:Int} {l st:List β} (h:Gf a b l st) (hi:i.toNat<st.length) (hj:j.toNat<st.length) (h1:a.toNat≤i.toNat) (h2:i.toNat<b.toNat) (h3:a.toNat≤j.toNat) (h4:j.toNat<b.toNat) (hb:b.toNat≤l.length):
  Gf a b l ((st.set i.toNat (st[j.toNat]'hj)).set j.toNat (st[i.toNat]'hi)):=by
 unfold Gf
 rw [sw hi hj]
 exact permIn_trans _ _ _ _ _ h (swp_permIn _ _ _ _ _ h1 h2 h3 h4 (by have:=h.len;simp;omega))
theorem Gf.trans {a b:Int} {l m st:List β} (h:Gf a b l m) (k:Gf a b m st):Gf a b l st:=permIn_trans _ _ _ _ _ h k
end
section
open Go
variable {P:Program} {L:Lg P} {n:Fm} {fz:Nat} {E:Env} {M0:Av} {w0:World} {S:Nat→Prop} {rs:List Ae} {new:Bool} {b:Nat} {T:TypeId} {ps:List Pr}
end
end Cp
namespace Cp
open Go Go.RowKit Go.Great
section
variable {P:Program} {L:Lg P} {n:Fm} {fz:Nat} {E:Env} {I:B6} {Q:Exit→Act→World→Prop}
theorem Tr.K6 {α0 α1:Type} (K:Env) (hK:Bn E K) (F:α0→α1→Value→Env) (Ii:α0→α1→Value→B6) (C:α0→α1→Prop) {x y:Code} (h:Tr L n E I x (Exit.then (fun a w=>∃x0 x1 v0,C x0 x1∧St n (F x0 x1 v0++K) (Ii x0 x1 v0) a w) Q))
  (k:∀x0 x1 v0,C x0 x1→Tr L n (F x0 x1 v0++K) (Ii x0 x1 v0) y Q):Tr L n E I (.seq x y) Q:=
 Tr.cut (fun y:α0×α1×Value=>F y.1 y.2.1 y.2.2++K) (fun y=>Ii y.1 y.2.1 y.2.2) (fun y=>C y.1 y.2.1) (Tr.post h fun e a w h=>by cases e<;>first|exact h|(obtain ⟨x0,x1,v0,h1,h2⟩:=h;exact ⟨(x0,x1,v0),h1,h2⟩)) fun y hy=>k y.1 y.2.1 y.2.2 hy
end
section
variable {P:Program} {L:Lg P} {n:Fm} {fz:Nat} {E:Env} {M0:Av} {w0:World} {S:Nat→Prop} {rs:List Ae} {β:Type} {e:TypeId} {sz:Nat} {f:β→List Pr} {Φ:List β→Prop} {v:Value}
theorem St.Yu {rows:List (List Pr)} (j d:Nat) {p:Pr} (hj:rs[j]? =some (Bu e sz rows v)) (hd:E.lookup d=some (Ab v p)) (hf:∀r∈rows,r.length=sz) {a:Act} {w:World} (hs:St n E (Hp M0 w0 S rs) a w):
  St n ((d,Ab v (slice sz rows))::E) (Hp M0 w0 S (rs.set j (Ax e sz v))) a w:=by
 obtain ⟨M,h1,h2,h3,h4⟩:=hs
 have h4:Al M0 w0 S rs M w:=h4
 obtain ⟨M',h6,h7,h8⟩:=Al.jQ h4 hj hf
 refine ⟨M',h1,h2,fun s q hq=> ?_,h7⟩
 simp only [List.lookup] at hq
 split at hq
 ·
  rename_i e1
  have:s=d:=by simpa using e1
  subst this
  simp only [Option.some.injEq] at hq
  subst hq
  have h9:=(h3 _ _ hd).1
  exact ⟨h9,by rw [h9];exact h8⟩
 · exact q.st _ _ _ _ _ h6 (h3 s q hq)
theorem Tr.Yu {Q:Exit→Act→World→Prop} {c:Code} {rows:List (List Pr)} (j d:Nat) {p:Pr} (hj:rs[j]? =some (Bu e sz rows v)) (hd:E.lookup d=some (Ab v p)) (hf:∀r∈rows,r.length=sz)
  (k:Tr L n ((d,Ab v (slice sz rows))::E) (Hp M0 w0 S (rs.set j (Ax e sz v))) c Q):Tr L n E (Hp M0 w0 S rs) c Q:=
 fun a w hs=>k a w (hs.Yu j d hj hd hf)
theorem VT {rows:List (List Pr)} (h:rows=[]):Pr.le (is (.slice none 0 0)) (Ab (.slice none 0 0) (lens rows.length)):=by
 subst h;exact fun _ _ _ hv=>⟨hv,⟨none,0,by rw [hv];rfl⟩⟩
theorem Cj {v:Value} {a b:Nat} (h:a=b):Pr.le (Ab v (lens a)) (Ab v (lens b)):=by subst h;exact Pr.le_refl _
end
section
variable {P:Program} {L:Lg P} {n:Fm} {fz:Nat} {E:Env} {M0:Av} {w0:World} {S:Nat→Prop} {rs:List Ae} {o:Oper}
end
section
variable {P:Program} {L:Lg P} {n:Fm} {fz:Nat} {E:Env} {M0:Av} {w0:World} {S:Nat→Prop} {rs:List Ae} {ε:Type} {res:ε→List Ae}
def Xp (res:ε→List Ae) (es:List ε):List Ae:=es.flatMap res
theorem Qh:∀{es:List ε} {k:Nat} {x:ε},es[k]? =some x→(Xp res es).Perm (res x++Xp res (es.eraseIdx k))
 |[],_,_,h=>by simp at h
 |a::es,0,x,h=>by
  simp only [List.getElem?_cons_zero,Option.some.injEq] at h
  subst h
  exact List.Perm.refl _
 |a::es,k+1,x,h=>by
  have ih:=Qh (es:=es) (k:=k) (x:=x) (by simpa using h)
  show (res a++Xp res es).Perm (res x++(res a++Xp res (es.eraseIdx k)))
  refine (ih.append_left (res a)).trans ?_
  rw [←List.append_assoc,←List.append_assoc]
  exact List.perm_append_comm.append_right _
theorem St.perm {rs':List Ae} (hp:rs.Perm rs') {a:Act} {w:World} (h:St n E (Hp M0 w0 S rs) a w):St n E (Hp M0 w0 S rs') a w:=by
 obtain ⟨M,h1,h2,h3,h4⟩:=h
 exact ⟨M,h1,h2,h3,Al.perm hp h4⟩
theorem Tr.jV {Q:Exit→Act→World→Prop} {c:Code} {e:TypeId} {sz:Nat} {rows:List (List Pr)} {v:Value} (j:Nat) (hj:rs[j]? =some (Bu e sz rows v)) (hne:rows≠[])
  (k:∀(b cap:Nat) (sp:List Value),v= .slice (some ⟨b,0,none⟩) rows.length cap→rows.length≤cap→cap≤maxLen→sp.length=(cap-rows.length)*sz→Tr L n E (Hp M0 w0 S (rs.set j (AB true b e (rows.flatten++sp.map is)))) c Q):Tr L n E (Hp M0 w0 S rs) c Q:=by
 intro a w hs
 obtain ⟨M,h1,h2,h3,h4⟩:=hs
 have h4:Al M0 w0 S rs M w:=h4
 rcases (h4.hold _ (List.mem_of_getElem? hj)).1 with ⟨h5,_⟩|⟨b,cap,sp,rfl,h5,h6,h7,h8⟩
 · exact absurd h5 hne
 · exact k b cap sp rfl h5 h6 h7 a w ⟨M,h1,h2,h3,h4.CU hj rfl rfl h8⟩
end
section
variable {P:Program} {L:Lg P} {n:Fm} {fz:Nat} {E:Env} {M0:Av} {w0:World} {S:Nat→Prop} {rs:List Ae} {o:Oper}
end
section
variable {P:Program} {L:Lg P} {n:Fm} {fz:Nat} {E:Env} {M0:Av} {w0:World} {S:Nat→Prop} {rs:List Ae} {o:Oper}
theorem BJ.Qi {f:FuncId} {e:TypeId} {sz:Nat} {rows:List (List Pr)} {ps:List Pr} {res:Pr} {R:Ae} (h:BJ P f ps res R (fun v=>Cb e sz rows v)):BJ P f ps res R (fun v=>Bu e sz rows v):=by
 refine ⟨h.1,fun M0 w0 S rs M w vs hI hv=>(h.2 M0 w0 S rs M w vs hI hv).mono ?_⟩
 rintro e' w' ⟨v,M',rfl,h2,h3,h4⟩
 exact ⟨v,M',rfl,h2,h3,h4.CU (i:=0) rfl rfl rfl (.inr (h4.hold _ (List.mem_cons_self ..)).1)⟩
instance f_ (p q:Pr) [Lt p] [Lt q]:Lt (Iv [p,q]):=⟨fun M M' w v ⟨cs,h1,h2⟩=>⟨cs,h1,by
 match cs,h2 with
 |[a,b],h2=>exact ⟨Lt.free _ _ _ _ h2.1,Lt.free _ _ _ _ h2.2.1,trivial⟩⟩⟩
end
section
variable {P:Program} {L:Lg P} {n:Fm} {fz:Nat} {E:Env} {M0:Av} {w0:World} {S:Nat→Prop} {o:Oper}
end
section
variable {P:Program} {L:Lg P} {n:Fm} {fz:Nat} {E:Env} {M0:Av} {w0:World} {S:Nat→Prop} {rs:List Ae} {ε:Type} {res:ε→List Ae}
theorem Tr.jW {Q:Exit→Act→World→Prop} {c:Code} (j:Nat) {new:Bool} {b:Nat} {T:TypeId} {ps:List Pr} (qs:List Pr) (hi:rs[j]? =some (AB new b T ps)) (h:ps=qs) (k:Tr L n E (Hp M0 w0 S (rs.set j (AB new b T qs))) c Q):Tr L n E (Hp M0 w0 S rs) c Q:=by
 subst h;exact Tr.Iw j ps hi (LX.rfl' ps) k
theorem Fin.jW {Q:Exit→Act→World→Prop} {e:Exit} (j:Nat) {new:Bool} {b:Nat} {T:TypeId} {ps:List Pr} (qs:List Pr) (hi:rs[j]? =some (AB new b T ps)) (h:ps=qs) (k:Fin n E (Hp M0 w0 S (rs.set j (AB new b T qs))) Q e):Fin n E (Hp M0 w0 S rs) Q e:=by
 subst h;exact Fin.Iw j ps hi (LX.rfl' ps) k
end
section
variable {P:Program} {L:Lg P} {n:Fm} {fz:Nat} {E:Env} {M0:Av} {w0:World} {S:Nat→Prop} {o:Oper}
theorem O3 {I:B6} {t e:TypeId} {x:Operand} {m:Nat} (ho:o.op= .call { callee:= .builtin .len,args:= #[x],argTypes:= #[t] }) (ht:P.underlying t=some (.slice e)) (hx:VL E x (lens m)):AR P I o E (int m):=
 AR.same fun M w a he _=>by
  obtain ⟨A,c,h1⟩:=hx.ev he (by simp [ho,Op.operands,Call.operands])
  exact ⟨.int .i64 m,by simp [execOp,ho,resolve,invoke,builtin,Builtin.len_,h1,run_underlying ht,goInt],rfl⟩
end
end Cp
namespace Cp
open Go Go.RowKit
section
variable {P:Program} {L:Lg P} {I:B6} {o:Oper} {E:Env}
theorem Ta {c y:Operand} {b d:Bool} (ho:o.op= .pick c (.const (.bool true)) y) (hc:VL E c (bool b)) (hy:VL E y (bool d)):AR P I o E (bool (b||d)):=by
 cases b with
 |true=>exact Jm ho hc rfl (vl rfl)
 |false=>exact Jn ho hc rfl hy
theorem Qj {c x:Operand} {b d:Bool} (ho:o.op= .pick c x (.const (.bool false))) (hc:VL E c (bool b)) (hx:VL E x (bool d)):AR P I o E (bool (b&&d)):=by
 cases b with
 |true=>exact Jm ho hc rfl hx
 |false=>exact Jn ho hc rfl (vl rfl)
end
section
variable {P:Program} {L:Lg P} {n:Fm} {fz:Nat} {E:Env} {M0:Av} {w0:World} {S:Nat→Prop} {rs:List Ae} {o:Oper}
end
end Cp
namespace Cp
open Go Go.RowKit Go.Great
def JH {α:Type} (P:Program) (f:FuncId) (args:List Pr) (pre:List Ae) (C:α→Prop) (res:α→Pr) (post:α→List Ae):Prop:=Entry P f∧∀M0 w0 S rs M w vs,Al M0 w0 S (pre++rs) M w→HL M w args vs→
 Calls P f vs.toArray w fun e w'=>∃v M' x,e= .returned v∧C x∧(res x).h M' w' v∧Ext M w M' w'∧Al M0 w0 S (post x++rs) M' w'
def M4 {α:Type} (M0:Av) (w0:World) (S:Nat→Prop) (rs:List Ae) (M1:Av) (w1:World) (C:α→Prop) (res:α→Pr) (post:α→List Ae) (e:Ending) (w':World):Prop:=∃v M' x,e= .returned v∧C x∧(res x).h M' w' v∧Ext M1 w1 M' w'∧Al M0 w0 S (post x++rs) M' w'
section
variable {P:Program} {L:Lg P} {n:Fm} {fz:Nat} {E:Env} {M0:Av} {w0:World} {S:Nat→Prop} {rs:List Ae} {α:Type} {pre:List Ae} {C:α→Prop} {res:α→Pr} {post:α→List Ae} {M1:Av} {w1:World} {g:Func} {o:Oper} {r:List Oper} {ops:Array Oper}
theorem JH.of {f : FuncId} {c : Code} {ps : List Pr} (hf : P.funcs[f]? = some g) (hb : g.body = some c) (hname : (g.name == "runtime.NumGoroutine") = false) (hlen : ps.length ≤ g.ntmps)
  (h:∀M0 w0 S rs M1 w1,Tr (Rt P) g.ntmps (IC 0 ps) (Hp M0 w0 S (pre++AZ M1 w1::rs)) c (bodyPost P g (M4 M0 w0 S rs M1 w1 C res post))):JH P f ps pre C res post:=by
 refine ⟨⟨g,hf,hname,by rw [hb];rfl⟩,fun M0 w0 S rs M w vs hI hv=> ?_⟩
 refine calls_of_wp hf hb (h M0 w0 S rs M w _ _ ⟨M,?_,rfl,EU hv,?_⟩)
 ·
  have:=hv.length
  simp [this];omega
 · exact Al.perm List.perm_middle.symm (Al.Hj hI (r:=AZ M w) rfl (Ext.refl _ _))
theorem Al.VU {M:Av} {w:World} {f:FuncId} {args:List Pr} {rest:List Ae} (hf:JH P f args pre C res post) (hp:rs.Perm (pre++rest)) (hI:Al M0 w0 S rs M w) {vs:List Value} (hv:HL M w args vs):
  Calls P f vs.toArray w fun e w'=>∃v M' x,e= .returned v∧C x∧(res x).h M' w' v∧Ext M w M' w'∧Al M0 w0 S (post x++rest) M' w':=hf.2 M0 w0 S rest M w vs (Al.perm hp hI) hv
theorem TO.VU {Q:Exit→Act→World→Prop} {f:FuncId} {xs:Array Operand} {ts:Array TypeId} {ps:List Pr} (rest:List Ae) {d:Nat} (hg:o.guard=none) (hd:o.dst=some d) (hn:d<n) (ho:o.op= .call { callee:= .value (.func f),args:=xs,argTypes:=ts }) (hf:JH P f ps pre C res post)
  (hv:GF E xs.toList ps) (hp:rs.Perm (pre++rest)) (k:∀x,C x→TO P n ops r ((d,res x)::E) (Hp M0 w0 S (post x++rest)) Q):TO P n ops (o::r) E (Hp M0 w0 S rs) Q:=
 TO.Us hg fun K M w a hsz hdf he hI hK=>by
  have hI:Al M0 w0 S rs M w:=hI
  have h1:=GF.Eo (o:=o) (B7 he) (xs:=xs.toList) (fun x hx=>by simp [ho,Op.operands,Call.operands];exact .inr (by simpa using hx)) hv
  have hrun:(execOp a.eval o).run P w= .ok (.enter f (xs.toList.map a.eval).toArray) w:=by
   simp [execOp,ho,resolve,Deferred.ofValue,Act.eval,invoke,EA hf.1,Gv xs]
  unfold Oper.wp
  rw [hrun]
  refine (Al.VU hf hp hI h1).mono ?_
  rintro e w' ⟨v,M',x,rfl,hC,h2,h3,h4⟩
  refine hK _ _ _ _ (k x hC) ⟨M',by rw [BV];exact hsz,by rw [put_defers];exact hdf,?_,h4⟩
  intro s q hq
  simp only [List.lookup] at hq
  by_cases hs:s=d
  · subst hs;simp at hq;subst hq;rw [hd,BG (by rw [hsz];exact hn)];exact h2
  · rw [show (s==d)=false by simpa using hs] at hq;rw [hd,At hs];exact q.st _ _ _ _ _ h3 (he s q hq)
theorem VV {l:List Ae} {M:Av} {w:World} (h:Al M0 w0 S (l++AZ M1 w1::rs) M w):Ext M1 w1 M w∧Al M0 w0 S (l++rs) M w:=
 ⟨(h.hold (AZ M1 w1) (by simp)).1,(Al.perm List.perm_middle h).I8⟩
theorem Fin.jX {rv:ResultVar} {q:Pr} {rs':List Ae} (x:α) (hr:g.results= #[rv]) (h:BK P E rs' rv q) (hC:C x) (hl:Pr.le q (res x)) (hp:rs'.Perm (post x++AZ M1 w1::rs)):
  Fin ⟨fz,[]⟩ E (Hp M0 w0 S rs') (bodyPost P g (M4 M0 w0 S rs M1 w1 C res post)) .ret:=by
 rintro a w ⟨M,_,hd,he,hi⟩
 have hi:Al M0 w0 S rs' M w:=hi
 obtain ⟨v,hv,hp'⟩:=h M w a he (fun q hq=>(hi.hold q hq).1)
 obtain ⟨h1,h2⟩:=VV (Al.perm hp hi)
 exact ⟨hd,v,results1 hr hv,_,M,x,rfl,hC,hl _ _ _ hp',h1,h2⟩
end
section
variable {P:Program} {L:Lg P} {n:Fm} {fz:Nat} {E:Env} {M0:Av} {w0:World} {S:Nat→Prop} {rs:List Ae} {o:Oper}
def dI:Value→Option Nat
 | .slice (some a) _ (_+1)=>some a.block
 |_=>none
def BQ (e:TypeId) (sz:Nat) (rows:List (List Pr)) (v:Value):Ae where
 blk:=dI v
 new:=true
 h M w:=(rows=[]∧∃A,v= .slice A 0 0)∨(∃(b cap:Nat) (spare:List Value),v= .slice (some ⟨b,0,none⟩) rows.length (cap+1)∧rows.length≤cap+1∧cap+1≤maxLen∧spare.length=(cap+1-rows.length)*sz∧(AB true b e (rows.flatten++spare.map is)).h M w)
 st M w M' w' he hk h:=by
  rcases h with h|⟨b,cap,spare,rfl,h1,h2,h3,h4⟩
  · exact .inl h
  · exact .inr ⟨b,cap,spare,rfl,h1,h2,h3,(AB true b e _).st _ _ _ _ he hk h4⟩
theorem BM {α:Type} {l:List α} {j:Nat} {x:α} (h:l[j]? =some x):j<l.length:=by
 rcases Nat.lt_or_ge j l.length with h'|h'
 · exact h'
 · rw [List.getElem?_eq_none h'] at h;cases h
theorem Al.blank {M:Av} {w:World} {j:Nat} {r:Ae} (h:Al M0 w0 S rs M w) (hj:rs[j]? =some r):Al M0 w0 S (rs.set j BC) M w:=
 Al.perm (I7 (BM hj)) ((Al.perm (FV hj) h).I8.Hj (r:=BC) rfl trivial)
theorem Ly (sz:Nat) (A:Option Addr) (M:Av) (w:World):(slice sz []).h M w (.slice A 0 0):=⟨A,0,rfl,Nat.le_refl _,Nat.zero_le _,fun _=>rfl,fun i row h=>by simp at h⟩
theorem Tc (sz:Nat) (A:Option Addr) (M:Av) (w:World):(full sz []).h M w (.slice A 0 0):=⟨Ly sz A M w,A,rfl⟩
theorem Al.jY {M:Av} {w:World} {sz:Nat} {e:TypeId} {rows:List (List Pr)} {v:Value} {j:Nat} (h:Al M0 w0 S rs M w) (hj:rs[j]? =some (BQ e sz rows v)) (hl:∀r∈rows,r.length=sz):
  ∃M',Ext M w M' w∧Al M0 w0 S (rs.set j BC) M' w∧(slice sz rows).h M' w v:=by
 have hjl:=BM hj
 rcases (h.hold _ (List.mem_of_getElem? hj)).1 with ⟨rfl,A,rfl⟩|⟨b,cap,spare,rfl,hnc,hcm,hsp,VP⟩
 · exact ⟨M,Ext.refl _ _,h.blank hj,Ly sz A M w⟩
 ·
  have hC:=h.CU (r':=AB true b e (rows.flatten++spare.map is)) hj rfl rfl VP
  obtain ⟨M',h1,h2,h3⟩:=Al.fm hC (List.getElem?_set_self hjl) hl hnc hcm (by rw [List.length_map];exact hsp)
  have h4:=h2.blank (j:=j) (by rw [List.set_set];exact List.getElem?_set_self hjl)
  rw [List.set_set,List.set_set] at h4
  exact ⟨M',h1,h4,h3⟩
theorem HL.set {M:Av} {w:World} {ps:List Pr} {vs:List Value} {k:Nat} {p q:Pr} (h:HL M w ps vs) (hk:ps[k]? =some p) (hq:∀u,p.h M w u→q.h M w u):HL M w (ps.set k q) vs:=by
 refine Ox (by rw [h.length];simp) fun k' p' hk'=> ?_
 rw [List.getElem?_set] at hk'
 split at hk'
 ·
  rename_i e1
  subst e1
  split at hk'
  ·
   obtain ⟨u,hu,bS⟩:=h.at_ k p hk
   simp at hk';subst hk'
   exact ⟨u,hu,hq u bS⟩
  · cases hk'
 · exact h.at_ k' p' hk'
theorem Al.G2 {M:Av} {w:World} {i j k sz b:Nat} {new:Bool} {T e:TypeId} {ps:List Pr} {rows:List (List Pr)} {v:Value} (h:Al M0 w0 S rs M w) (hi:rs[i]? =some (AB new b T ps)) (hj:rs[j]? =some (BQ e sz rows v)) (hij:j≠i) (hk:ps[k]? =some (is v)) (hl:∀r∈rows,r.length=sz):
  ∃M',Ext M w M' w∧Al M0 w0 S ((rs.set j BC).set i (AB new b T (ps.set k (slice sz rows)))) M' w:=by
 obtain ⟨M',h1,h2,h3⟩:=h.jY hj hl
 have hi':(rs.set j BC)[i]? =some (AB new b T ps):=by rw [List.getElem?_set_ne hij];exact hi
 refine ⟨M',h1,h2.CU hi' rfl rfl ?_⟩
 obtain ⟨g1,cs,g2,g3,g4⟩:=(h2.hold _ (List.mem_of_getElem? hi')).1
 exact ⟨g1,cs,g2,g3.set hk (fun u hu=>by rw [show u=v from hu];exact h3),g4⟩
def part (sz:Nat) (v:Value) (k:Nat):Pr where
 h _ _ u:=∃a m c,v= .slice a m c∧k≤m∧u= .slice (if c=k then a else a.map fun x=>x.add (k*sz)) (m-k) (c-k)
 st _M _w _M' _w' _v _ h:=h
instance jZ (sz:Nat) (v:Value) (k:Nat):One (part sz v k):=⟨by rintro M w u ⟨a,m,c,h1,h2,rfl⟩;exact ⟨rfl,rfl⟩⟩
theorem BJ.fm {f:FuncId} {args:List Pr} {e:TypeId} {sz m:Nat} {rows:List (List Pr)} {R:Ae} (hl:∀r∈rows,r.length=sz) (h:BJ P f args (lens m) R (fun v=>Bu e sz rows v)):BJ P f args (slice sz rows) R (fun _=>BC):=by
 refine ⟨h.1,fun M0 w0 S rs M w vs hI hv=>(h.2 M0 w0 S rs M w vs hI hv).mono ?_⟩
 rintro e' w' ⟨v,M',rfl,h2,h3,h4⟩
 obtain ⟨M2,j1,j2,j3⟩:=Al.jQ (j:=0) h4 rfl hl
 exact ⟨v,M2,rfl,j3,h3.trans j1,j2.blank (j:=0) rfl⟩
theorem BJ.jc {f:FuncId} {args:List Pr} {e:TypeId} {sz m:Nat} {rows:List (List Pr)} {R:Ae} (hl:∀r∈rows,r.length=sz) (h:BJ P f args (lens m) R (fun v=>Cb e sz rows v)):BJ P f args (slice sz rows) R (fun _=>BC):=
 BJ.fm hl (BJ.Qi h)
theorem BJ.Lz {f:FuncId} {e:TypeId} {sz:Nat} {rows:List (List Pr)} {ps:List Pr} {res:Pr} {R:Ae} (h0:rows≠[]) (h:BJ P f ps res R (fun v=>Cb e sz rows v)):BJ P f ps res R (fun v=>BQ e sz rows v):=by
 refine ⟨h.1,fun M0 w0 S rs M w vs hI hv=>(h.2 M0 w0 S rs M w vs hI hv).mono ?_⟩
 rintro e' w' ⟨v,M',rfl,h2,h3,h4⟩
 refine ⟨v,M',rfl,h2,h3,?_⟩
 have hpos:=List.length_pos_iff.2 h0
 obtain ⟨b,cap,spare,rfl,hnc,hcm,hsp,VP⟩:=(h4.hold _ (List.mem_cons_self ..)).1
 cases cap with
 |zero=>omega
 |succ cap=>exact h4.CU (i:=0) rfl rfl rfl (.inr ⟨b,cap,spare,rfl,hnc,hcm,hsp,VP⟩)
theorem BJ.O4 {f:FuncId} {e:TypeId} {sz sz':Nat} {ps:List Pr} (h:A9 P f ps (full sz' [])):BJ P f ps (lens 0) BC (fun v=>BQ e sz [] v):=by
 refine ⟨h.1,fun M0 w0 S rs M w vs hI hv=>(h.2 M w vs hI.bd hv).mono ?_⟩
 rintro e' w' ⟨v,rfl,⟨_,a,rfl⟩,h3⟩
 refine ⟨_,M,rfl,⟨_,_,rfl⟩,Ext.below h3,?_⟩
 have OV:Al M0 w0 S (BC::rs) M w':=(Hp M0 w0 S _).st _ _ _ h3 hI
 exact OV.CU (i:=0) (r':=BQ e sz [] (.slice a 0 0)) rfl (by cases a<;>rfl) rfl (.inl ⟨rfl,a,rfl⟩)
def dJ (sz:Nat) (v:Value) (i o:Nat):Pr where
 h _ _ u:=∃a m c,v= .slice (some a) m c∧u= .pointer (some (a.add (i*sz+o)))
 st _M _w _M' _w' _v _ h:=h
instance mg (sz:Nat) (v:Value) (k o:Nat):One (dJ sz v k o):=⟨by rintro M w u ⟨a,m,c,h1,rfl⟩;exact ⟨rfl,rfl⟩⟩
theorem GO {t e:TypeId} {x y:Operand} {k:IntKind} {l:Int} {sz j:Nat} {T:TypeId} {rows:List (List Pr)} {v:Value} (ho:o.op= .indexAddr t x y) (ht:P.underlying t=some (.slice e)) (hz:Af P e=some sz) (hx:VL E x (is v)) (hy:VL E y (is (.int k l))) (h0:0≤l) (hl:l<rows.length):
  IE P M0 w0 S j (SR.c (BQ T sz rows v)) o E (dJ sz v l.toNat 0):=by
 intro M w a rs he hI hj
 have h1:a.eval x=v:=hx.ev he (by simp [ho,Op.operands])
 have h3:a.eval y= .int k l:=hy.ev he (by simp [ho,Op.operands])
 have hj':rs[j]? =some (BQ T sz rows v):=hj
 rcases (hI.hold _ (List.mem_of_getElem? hj')).1 with ⟨rfl,A,hv⟩|⟨b,cap,spare,hv,hnc,hcm,hsp,VP⟩
 · simp at hl;omega
 ·
  have hrun:(execOp a.eval o).run P w= .ok (.value (.pointer (some ((⟨b,0,none⟩:Addr).add (l.toNat*sz))))) w:=by
   simp [execOp,ho,h1,h3,hv,Instr.indexAt,asIntOf,run_underlying ht,Bf hz,h0,hl]
  rw [hrun]
  exact ⟨⟨_,_,_,hv,rfl⟩,Below.refl _ _⟩
theorem Qk {I:B6} {t:TypeId} {x:Operand} {f sz i q off:Nat} {v:Value} (ho:o.op= .fieldAddr t x f) (hf:AP P t f=some off) (hx:VL E x (dJ sz v i q)):AR P I o E (dJ sz v i (q+off)):=
 AR.same fun M w a he _=>by
  obtain ⟨a0,m0,c0,hv,h1⟩:=hx.ev he (by simp [ho,Op.operands])
  exact ⟨.pointer (some ((a0.add (i*sz+q)).add off)),by simp [execOp,ho,h1,Gu hf],a0,m0,c0,hv,by rw [add_add,Nat.add_assoc]⟩
theorem Td {t:TypeId} {x:Operand} {sz j i:Nat} {T:TypeId} {rows:List (List Pr)} {row:List Pr} {v:Value} (ho:o.op= .load t x) (ht:EV P t=true) (hz:Af P t=some sz) (hx:VL E x (dJ sz v i 0)) (hl:∀r∈rows,r.length=sz) (hi:rows[i]? =some row):
  IE P M0 w0 S j (SR.c (BQ T sz rows v)) o E (agg row):=by
 intro M w a rs he hI hj
 obtain ⟨a0,m0,c0,TP,h1⟩:=hx.ev he (by simp [ho,Op.operands])
 rw [Nat.add_zero] at h1
 have hj':rs[j]? =some (BQ T sz rows v):=hj
 rcases (hI.hold _ (List.mem_of_getElem? hj')).1 with ⟨rfl,A,hv⟩|⟨b,cap,spare,hv,hnc,hcm,hsp,⟨_,cs,h4,h5,h6⟩⟩
 · simp at hi
 ·
  rw [TP] at hv
  injection hv with e1 e2 e3
  injection e1 with e1
  subst e1
  have E3:=BM hi
  have hrl:=hl row (List.mem_of_getElem? hi)
  have hfl:=CM hl
  have hle:(i+1)*sz≤rows.length*sz:=Nat.mul_le_mul_right sz E3
  rw [Nat.add_mul] at hle
  have h7:HL M w row ((cs.drop (i*sz)).take sz):=by
   have h8:=(h5.drop (i*sz)).take sz
   have e4:((rows.flatten++spare.map is).drop (i*sz)).take sz=row:=by
    refine List.ext_getElem? fun j=> ?_
    rw [List.getElem?_take]
    split
    ·
     rename_i hj
     rw [List.getElem?_drop,List.getElem?_append_left (by rw [hfl];omega),GM hl hi hj]
    · rw [List.getElem?_eq_none (by omega)]
   rwa [e4] at h8
  have hl':((cs.drop (i*sz)).take sz).length=sz:=by rw [h7.length,hrl]
  have hrun:(loadCells ((⟨b,0,none⟩:Addr).add (i*sz)) sz).run P w= .ok ((cs.drop (i*sz)).take sz).toArray w:=by
   have:=run_loadCells_list (P:=P) w ((⟨b,0,none⟩:Addr).add (i*sz)) ((cs.drop (i*sz)).take sz) (fun k u hk=>by
    rw [add_add,EC]
    rw [List.getElem?_take] at hk
    split at hk
    · rw [List.getElem?_drop] at hk;simp [World.cell?,h4,hk]
    · cases hk)
   rwa [hl'] at this
  have DM:(execOp a.eval o).run P w= .ok (.value (.agg ((cs.drop (i*sz)).take sz).toArray)) w:=by simp [execOp,ho,h1,Instr.loadAt,Instr.sureAddr,loadVar,Dn ht,Bf hz,hrun]
  rw [DM]
  exact ⟨⟨_,rfl,fun c hc=>h6 c (List.mem_of_mem_drop (List.mem_of_mem_take hc)),h7⟩,Below.refl _ _⟩
theorem O5 {sz:Nat}:∀{rows:List (List Pr)} {i:Nat} {row:List Pr} {o:Nat} {qs S:List Pr},(∀r∈rows,r.length=sz)→rows[i]? =some row→o+qs.length≤sz→
  (rows.flatten++S).take (i*sz+o)++qs++(rows.flatten++S).drop (i*sz+o+qs.length)=(rows.set i (row.take o++qs++row.drop (o+qs.length))).flatten++S
 |[],_,_,_,_,_,_,h,_=>by simp at h
 |a::l,0,row,o,qs,S,hl,h,ho=>by
  simp at h;subst h
  have h1:=hl a (by simp)
  rw [List.set_cons_zero,List.flatten_cons,List.flatten_cons,Nat.zero_mul,Nat.zero_add,List.append_assoc a,List.take_append_of_le_length (by omega),List.drop_append_of_le_length (by omega)]
  simp
 |a::l,i+1,row,o,qs,S,hl,h,ho=>by
  have h1:=hl a (by simp)
  have ih:=O5 (S:=S) (fun r hr=>hl r (List.mem_cons_of_mem _ hr)) (i:=i) (row:=row) (o:=o) (qs:=qs) (by simpa using h) ho
  rw [List.set_cons_succ, List.flatten_cons, List.flatten_cons, List.append_assoc a, List.append_assoc a, ← ih, List.take_append, List.drop_append, List.take_of_length_le (by rw [h1, Nat.succ_mul]; omega), List.drop_of_length_le (by rw [h1, Nat.succ_mul]; omega),
   show (i+1)*sz+o-a.length=i*sz+o by rw [h1,Nat.succ_mul];omega,show (i+1)*sz+o+qs.length-a.length=i*sz+o+qs.length by rw [h1,Nat.succ_mul];omega]
  simp
theorem E9 {t:TypeId} {x y:Operand} {sz j i q m:Nat} {T:TypeId} {rows rows':List (List Pr)} {row qs:List Pr} {v:Value} (hg:o.guard=none) (ho:o.op= .store t x y) (hx:VL E x (dJ sz v i q)) (hy:VL E y (CI qs)) (hz:Af P t=some m) (hm:qs.length=m)
  (hl:∀r∈rows,r.length=sz) (hi:rows[i]? =some row) (hq:q+m≤sz) (hps:rows.set i (row.take q++qs++row.drop (q+m))=rows'):C5 P M0 w0 S n j (SR.c (BQ T sz rows v)) (SR.c (BQ T sz rows' v)) o E any:=by
 refine ⟨hg,fun M w a rs hsz he hI hj=> ?_⟩
 obtain ⟨a0,m0,c0,TP,h1⟩:=hx.ev he (show x∈o.op.operands.toList by simp [ho,Op.operands])
 obtain ⟨h2,h3⟩:=hy.ev he (show y∈o.op.operands.toList by simp [ho,Op.operands])
 have hj':rs[j]? =some (BQ T sz rows v):=hj
 have hjl:=BM hj'
 rcases (hI.hold _ (List.mem_of_getElem? hj')).1 with ⟨rfl,A,hv⟩|⟨b,cap,spare,hv,hnc,hcm,hsp,VP⟩
 · simp at hi
 ·
  subst hv
  injection TP with e1 e2 e3
  injection e1 with e1
  subst e1
  have hC:=hI.CU (r':=AB true b T (rows.flatten++spare.map is)) hj' rfl rfl VP
  have mZ:(rs.set j (AB true b T (rows.flatten++spare.map is)))[j]? =some (AB true b T (rows.flatten++spare.map is)):=List.getElem?_set_self hjl
  obtain ⟨_,cs,h4,h5,h6⟩:=VP
  have g_:=h5.length
  have Z9:=h2.length
  have E3:=BM hi
  have hfl:=CM hl
  rw [List.length_append,hfl,List.length_map] at g_
  have hle:(i+1)*sz≤rows.length*sz:=Nat.mul_le_mul_right sz E3
  rw [Nat.succ_mul] at hle
  have hcells:(a.eval y).cells.size=m:=by rw [←hm,←Z9];simp
  have hrun:(storeCells ((⟨b,0,none⟩:Addr).add (i*sz+q)) (a.eval y).cells.toList 0).run P w= .ok () (w.setRow b (cs.take (i*sz+q)++(a.eval y).cells.toList++cs.drop (i*sz+q+m)).toArray):=by
   have:=run_storeCells_at (P:=P) b (i*sz+q) T (a.eval y).cells.toList 0 cs.toArray w h4 (by simp;omega) h3
   rw [EC,Nat.zero_add]
   simpa [hcells] using this
  have DM:(execOp a.eval o).run P w= .ok .skip (w.setRow b (cs.take (i*sz+q)++(a.eval y).cells.toList++cs.drop (i*sz+q+m)).toArray):=by
   simp [execOp,ho,h1,Instr.storeAt,Instr.sureAddr,storeVar,Bf hz,hcells,hrun]
  rw [DM]
  have hfs:=O5 (S:=spare.map is) hl hi (o:=q) (qs:=qs) (by omega)
  rw [hm,hps] at hfs
  obtain ⟨h7, h8⟩ := Al.write (qs := rows'.flatten ++ spare.map is) (cs := cs.take (i * sz + q) ++ (a.eval y).cells.toList ++ cs.drop (i * sz + q + m)) hC mZ (by rw [← hfs]; exact (((h5.take (i * sz + q)).app h2)).app (h5.drop (i * sz + q + m)))
   (fun c hc=>by
    simp only [List.mem_append] at hc
    rcases hc with (hc|hc)|hc
    · exact h6 c (List.mem_of_mem_take hc)
    · exact h3 c hc
    · exact h6 c (List.mem_of_mem_drop hc))
  rw [List.set_set] at h7
  refine ⟨M,trivial,h8,?_⟩
  have hlen:rows'.length=rows.length:=by rw [←hps,List.length_set]
  have h9:=h7.CU (r':=BQ T sz rows' (.slice (some ⟨b,0,none⟩) rows.length (cap+1))) (List.getElem?_set_self hjl) rfl rfl (.inr ⟨b,cap,spare,by rw [hlen],by rw [hlen];exact hnc,hcm,by rw [hlen];exact hsp,(h7.hold _ (List.mem_of_getElem? (List.getElem?_set_self hjl))).1⟩)
  rw [List.set_set] at h9
  exact h9
theorem Al.aY:∀{l:List Ae} {M:Av} {w:World},Al M0 w0 S (l++rs) M w→Al M0 w0 S rs M w
 |[],_,_,h=>h
 |_::l,_,_,h=>Al.aY (l:=l) h.I8
end
section
variable {P:Program} {L:Lg P} {E:Env} {I:B6} {o:Oper}
theorem Ql {f : FuncId} {fn : Func} {x y : Operand} {ts : Array TypeId} {a : List UInt8} {c : UInt8} (ho : o.op = .call { callee := .value (.func f), args := #[x, y], argTypes := ts }) (hf : P.funcs[f]? = some fn) (hname : (fn.name == "runtime.NumGoroutine") = false)
  (hb:fn.body.isNone=true) (hn:Extern.findNext fn=none) (hex:Extern.find fn=some Extern.BytealgIndexByte.indexByte) (hx:VL E x (str a)) (hy:VL E y (is (.int .u8 ((c.toNat:Nat):Int)))):AR P I o E (int (Lib.indexByte a c)):=
 AR.same fun M w ac he _=>by
  have h1:ac.eval x=_:=hx.ev he (by simp [ho,Op.operands,Call.operands])
  have h2:ac.eval y=_:=hy.ev he (by simp [ho,Op.operands,Call.operands])
  have h3:ac.eval (.func f)= .func (.func f) #[] #[]:=rfl
  refine ⟨_,?_,rfl⟩
  have hrun:(execOp ac.eval o).run P w=(callFunc f #[ac.eval x,ac.eval y]).run P w:=by simp [execOp,ho,resolve,Deferred.ofValue,invoke,h3]
  rw [hrun,h1,h2,run_callFunc_extern hf hname hb hn hex,Lib.run_indexByteString]
  simp
section
variable {n:Fm} {fz:Nat} {M0:Av} {w0:World} {S:Nat→Prop}
theorem Te {t e:TypeId} {sz d j:Nat} {zs:List Value} {xs:List Operand} {parts:Array (Nat×Operand)} {rows:List (List Pr)} (hg:o.guard=none) (hd:o.dst=some d) (hn:d<n) (ho:o.op= .buildSlice t xs.length parts) (hp:parts.toList=(xs.zipIdx 0).map fun x=>(x.2,x.1))
  (ht:P.underlying t=some (.slice e)) (hz:Af P e=some sz) (DV:A7 P e=some zs) (hzl:zs.length=sz) (hsz:0<sz) (hx:MY E sz xs rows) (hsmall:xs.length*sz≤16777216) (r6:0<xs.length):C5 P M0 w0 S n j (SR.c BC) ⟨d,Cb e sz rows⟩ o E (lens rows.length):=by
 refine ⟨hg,fun M w a rs IG he hI hj=> ?_⟩
 have bZ:∀x∈xs,x∈o.op.operands.toList:=by
  intro x hx
  simp only [ho,Op.operands,List.mem_map]
  obtain ⟨i,hi,rfl⟩:=List.mem_iff_getElem.1 hx
  exact ⟨(i,xs[i]),by rw [hp];exact List.mem_map.2 ⟨(xs[i],i),by rw [List.mem_zipIdx_iff_getElem?];simp [hi],rfl⟩,rfl⟩
 obtain ⟨h1,h2,h3⟩:=hx.ev he bZ
 unfold Af at hz
 unfold A7 at DV
 cases hi:P.info? e with
 |none=>rw [hi] at hz;cases hz
 |some i=>
  rw [hi] at hz DV
  simp only [Option.map_some,Option.some.injEq,Option.map_eq_some_iff] at hz DV
  obtain ⟨z,R9,DV⟩:=DV
  have Uw:z.cells.size=sz:=by rw [←hzl,←DV];simp
  have hparts:(parts.map fun (i,x)=>(i,a.eval x)).toList=((xs.map a.eval).zipIdx 0).map fun x=>(x.2,x.1):=by
   rw [Array.toList_map,hp,List.map_map,List.zipIdx_map,List.map_map]
   rfl
  have Uy := fill_whole (s := i.size) (by rw [hz]; exact hsz) (xs.map a.eval) ((Array.range (xs.length * i.size)).map (z.cells[· % z.cells.size]!)) (fun v hv => by
   obtain ⟨x,hx,rfl⟩:=List.mem_map.1 hv
   rw [hz];exact h2 x hx) (by simp)
  have hpos:¬xs.length*i.size=0:=by rw [hz];exact Nat.ne_of_gt (Nat.mul_pos (by omega) hsz)
  have hrun:=run_buildSlice (P:=P) w t e xs.length (parts.map fun (i,x)=>(i,a.eval x)) _ i z ht hi R9 (by rw [hz];omega) hpos (by rw [hparts];exact Uy)
  have DM:(execOp a.eval o).run P w= .ok (.value (.slice (some ⟨w.heap.size,0,none⟩) xs.length xs.length)) (w.alloc (.cells ((xs.map a.eval).flatMap fun v=>v.cells.toList).toArray e)):=by simp [execOp,ho,hrun]
  rw [DM]
  generalize hcs:(xs.map a.eval).flatMap (fun v=>v.cells.toList)=cs at h3 ⊢
  have hb:Below w.heap.size w (w.alloc (.cells cs.toArray e)):=(Below.refl _ _).alloc (Nat.le_refl _) _
  have hlen:rows.length≤maxLen:=by
   have:xs.length*1≤xs.length*sz:=Nat.mul_le_mul_left _ hsz
   unfold maxLen;omega
  have h4:=Ext.below (M:=M) hb
  have DI:Ext M w (fun b o=>M b o∨b=w.heap.size) (w.alloc (.cells cs.toArray e)):=by
   refine ⟨h4.size,fun a v hc hm=>⟨fun hx=> ?_,(h4.keep a v hc hm).2⟩,fun b o ho hp hm=>⟨fun hx=> ?_,(h4.obj b o ho hp hm).2⟩⟩
   ·
    rcases hx with hx|hx
    · exact hm hx
    · have:=C0 hc;omega
   ·
    rcases hx with hx|hx
    · exact hm hx
    · subst hx;simp at ho
  have hs1:(w.alloc (.cells cs.toArray e)).heap.size=w.heap.size+1:=by simp
  have hat:(SR.at_ (a.put o.dst (.slice (some ⟨w.heap.size,0,none⟩) xs.length xs.length)) ⟨d,Cb e sz rows⟩)=Cb e sz rows (.slice (some ⟨w.heap.size,0,none⟩) xs.length xs.length):=by unfold SR.at_ Slot.val;dsimp only;rw [hd,BG (by rw [IG];exact hn)]
  refine ⟨fun b o=>M b o∨b=w.heap.size,⟨_,_,by rw [h1]⟩,DI,?_⟩
  rw [hat]
  refine hI.replace hj DI hb.os hb.tape hb.output (fun k hk _=>hb.block k hk) rfl (fun b o hm _=> .inl hm) (fun b o hx=> ?_) ?_ rfl (fun b hbk=> ?_)
  ·
   rcases hx with hx|hx
   · have:=hI.bd _ _ hx;omega
   · omega
  ·
   refine ⟨w.heap.size,rows.length,[],by rw [h1],Nat.le_refl _,hlen,by simp,fun o=> .inr rfl,cs,heap_alloc_new w _,?_,h3.2.1⟩
   simpa using (h3.st DI).hl hsz
  ·
   have DL:some w.heap.size=some b:=hbk
   injection DL with e1
   subst e1
   exact ⟨by rw [hs1];omega,.inr (Nat.le_refl _)⟩
end
theorem Yv (p:Pr) [One p]:Pr.le p (CI [any]):=fun M w v h=>by
 obtain ⟨h1,h2⟩:=AD p M w v h
 refine ⟨?_,h2⟩
 match v.cells.toList,h1 with
 |[_],_=>exact ⟨trivial,trivial⟩
theorem Yw {ps:List Pr} {off:Nat} (h:ps[off]? =some any):ps.take off++[any]++ps.drop (off+1)=ps:=by
 have hl:=BM h
 rw [List.getElem?_eq_getElem hl] at h
 simp only [Option.some.injEq] at h
 conv=>rhs;rw [←List.take_append_drop off ps,List.drop_eq_getElem_cons hl,h]
 simp
end
def allI (p:Nat→Bool) (n:Nat):Bool:=(List.range n).all p
theorem Ba {p:Nat→Bool} {n:Nat}:allI p n=true↔∀j,j<n→p j=true:=by unfold allI;simp
theorem JI {p:Nat→Bool} {n:Nat} (h:∀j,j<n→p j=true):allI p n=true:=Ba.2 h
theorem C8 {p:Nat→Bool} {n k:Nat} (hk:k<n) (h:p k=false):allI p n=false:=by
 rw [Bool.eq_false_iff];intro h';rw [Ba.1 h' k hk] at h;cases h
theorem BT {p:Nat→Bool} {k:Nat} (h:∀j,j<k→p j=true) (hk:p k=true):∀j,j<k+1→p j=true:=by
 intro j hj
 by_cases e:j=k
 · subst e;exact hk
 · exact h j (by omega)
section
variable {P:Program} {L:Lg P} {n:Fm} {fz:Nat} {I:B6}
def jd (P:Program) (I':B6) (M:Av) (w:World) (p:Pr):Result Next→Prop
 | .ok (.value v) w'=>∃M',p.h M' w' v∧Ext M w M' w'∧I'.h M' w'
 | .ok .skip w'=>∃M',p.h M' w' undef∧Ext M w M' w'∧I'.h M' w'
 | .ok (.enter f args) w'=>Calls P f args w' fun e w''=>∃v M',e= .returned v∧p.h M' w'' v∧Ext M w M' w''∧I'.h M' w''
 |_=>False
def VW (P:Program) (n:Fm) (I I':B6) (o:Oper) (E:Env) (p:Pr):Prop:=o.guard=none∧∀M w (a:Act),a.tmps.size=n.sz→Bs M w E o a→I.h M w→jd P I' M w p ((execOp a.eval o).run P w)
def M6 (P:Program) (n:Fm) (I:B6) (ops:Array Oper):Nat→List Oper→Env→(B6→Env→Prop)→Prop
 |_,[],_,_=>False
 |0,o::r,E,K=>∃p I',VW P n I I' o E p∧(∀d,o.dst=some d→d<n)∧Ch P n I' ops r (upd o p E) (K I')
 |c+1,o::r,E,K=>∃p,Uo P I ops o E p∧(∀d,o.dst=some d→d<n)∧M6 P n I ops c r (upd o p E) K
theorem M6.op {ops:Array Oper} {o:Oper} {r:List Oper} {E:Env} {K:B6→Env→Prop} {d c:Nat} {p:Pr} (hg:o.guard=none) (hd:o.dst=some d) (hn:d<n) (h:AR P I o E p)
  (k:M6 P n I ops c r ((d,p)::E) K):M6 P n I ops (c+1) (o::r) E K:=
 ⟨p,by unfold Uo;rw [hg];exact h,fun d' hd'=>by rw [hd] at hd';cases hd';exact hn,by unfold upd;rw [hd];exact k⟩
theorem M6.turn {ops:Array Oper} {o:Oper} {r:List Oper} {E:Env} {K:B6→Env→Prop} {d:Nat} {p:Pr} (I':B6) (hd:o.dst=some d) (hn:d<n) (h:VW P n I I' o E p)
  (k:Ch P n I' ops r ((d,p)::E) (K I')):M6 P n I ops 0 (o::r) E K:=
 ⟨p,I',h,fun d' hd'=>by rw [hd] at hd';cases hd';exact hn,by unfold upd;rw [hd];exact k⟩
def VX (P:Program) (f:FuncId) (args:List Pr) (pre:List Ae) (res:Pr) (post:List Ae):Prop:=JH (α:=Unit) P f args pre (fun _=>True) (fun _=>res) (fun _=>post)
section
variable {M0:Av} {w0:World} {S:Nat→Prop} {rs:List Ae} {E:Env} {o:Oper} {g:Func} {M1:Av} {w1:World}
theorem VX.of {f : FuncId} {c : Code} {ps : List Pr} {pre post : List Ae} {res : Pr} (hf : P.funcs[f]? = some g) (hb : g.body = some c) (hname : (g.name == "runtime.NumGoroutine") = false) (hlen : ps.length ≤ g.ntmps)
  (h:∀M0 w0 S rs M1 w1,Tr (Rt P) g.ntmps (IC 0 ps) (Hp M0 w0 S (pre++AZ M1 w1::rs)) c (bodyPost P g (M4 M0 w0 S rs M1 w1 (fun _:Unit=>True) (fun _=>res) (fun _=>post)))):VX P f ps pre res post:=
 JH.of hf hb hname hlen h
theorem BJ.pure {f:FuncId} {args:List Pr} {res:Pr} {R':Value→Ae} (h:BJ P f args res BC R'):A9 P f args res:=by
 refine ⟨h.1,fun M w vs hb hv=> ?_⟩
 refine (h.2 M w OR [] M w vs ((Al.begin hb).Hj (r:=BC) rfl trivial) hv).mono ?_
 rintro e w' ⟨v,M',rfl,h2,h3,h4⟩
 exact ⟨v,rfl,res.st _ _ _ _ _ (Ext.less h4.m) h2,h4.below⟩
theorem Yx {t e T:TypeId} {x:Operand} {sz j:Nat} {rows:List (List Pr)} {v:Value} (ho:o.op= .call { callee:= .builtin .len,args:= #[x],argTypes:= #[t] }) (ht:P.underlying t=some (.slice e)) (hx:VL E x (is v)):
  IE P M0 w0 S j (SR.c (BQ T sz rows v)) o E (int ((rows.length:Nat):Int)):=by
 intro M w a rs he hI hj
 have h1:a.eval x=v:=hx.ev he (by simp [ho,Op.operands,Call.operands])
 have hj':rs[j]? =some (BQ T sz rows v):=hj
 have hrun:∃A c,v= .slice A rows.length c:=by
  rcases (hI.hold _ (List.mem_of_getElem? hj')).1 with ⟨rfl,A,hv⟩|⟨b,cap,spare,hv,_⟩
  · exact ⟨_,_,hv⟩
  · exact ⟨_,_,hv⟩
 obtain ⟨A,c,hv⟩:=hrun
 have:(execOp a.eval o).run P w= .ok (.value (.int .i64 ((rows.length:Nat):Int))) w:=by
  simp [execOp,ho,resolve,invoke,builtin,Builtin.len_,h1,hv,run_underlying ht,goInt]
 rw [this]
 exact ⟨rfl,Below.refl _ _⟩
end
end
section
variable {P:Program} {L:Lg P} {n:Fm} {fz:Nat} {E:Env} {M0:Av} {w0:World} {S:Nat→Prop} {rs:List Ae} {o:Oper}
def je (b off m:Nat):Pr where
 h _ _ u:=∃o c,u= .slice (some ⟨b,o,none⟩) m c∧(0<m→o=off)
 st _M _w _M' _w' _v _ h:=h
instance gA (b off m:Nat):One (je b off m):=⟨by rintro M w u ⟨o,c,rfl,_⟩;exact ⟨rfl,rfl⟩⟩
theorem JJ {I:B6} {t e:TypeId} {x y:Operand} {sz sz1 sz2:Nat} (ho:o.op= .call { callee:= .builtin .append,args:= #[x,y],argTypes:= #[t,t] }) (ht:P.underlying t=some (.slice e)) (hz:Af P e=some sz) (hx:VL E x (full sz1 [])) (hy:VL E y (slice sz2 [])):AR P I o E (full sz []):=
 AR.same fun M w a he _=>by
  obtain ⟨_,A,h1⟩:=hx.ev he (by simp [ho,Op.operands,Call.operands])
  obtain ⟨A',c',h2,_⟩:=hy.ev he (by simp [ho,Op.operands,Call.operands])
  simp only [List.length_nil] at h1 h2
  refine ⟨.slice A 0 0,?_,Tc sz A M w⟩
  have hrun:=Eh (P:=P) (ty:=o.type) (A:=A) (A':=A') (n:=0) (c:=0) (c':=c') ht hz (Nat.le_refl _) w
  simp [execOp,ho,resolve,invoke,builtin,h1,h2,hrun]
end
section
variable {P:Program} {L:Lg P} {n:Fm} {fz:Nat} {E:Env} {M0:Av} {w0:World} {S:Nat→Prop} {rs:List Ae} {o:Oper}
end
section
variable {P:Program} {L:Lg P} {n:Fm} {fz:Nat} {E:Env} {M0:Av} {w0:World} {S:Nat→Prop} {rs:List Ae}
theorem St.G2 {i j k sz b:Nat} {new:Bool} {T e:TypeId} {ps:List Pr} {rows:List (List Pr)} {v:Value} {p:Pr} (hi:rs[i]? =some (AB new b T ps)) (hj:rs[j]? =some (BQ e sz rows v)) (hij:j≠i) (hk:ps[k]? =some p) (hp:Pr.le p (is v)) (hl:∀r∈rows,r.length=sz) {a:Act} {w:World} (h:St n E (Hp M0 w0 S rs) a w):
  St n E (Hp M0 w0 S ((rs.set j BC).set i (AB new b T (ps.set k (slice sz rows))))) a w:=by
 obtain ⟨M,h1,h2,h3,h4⟩:=h
 have h4:Al M0 w0 S rs M w:=h4
 have hi':(rs.set j (BQ e sz rows v))[i]? =some (AB new b T ps):=by rw [List.getElem?_set_ne hij];exact hi
 obtain ⟨M',g1,g2,g3⟩:=h4.jY hj hl
 have gi:(rs.set j BC)[i]? =some (AB new b T ps):=by rw [List.getElem?_set_ne hij];exact hi
 refine ⟨M',h1,h2,fun s q hq=>q.st _ _ _ _ _ g1 (h3 s q hq),g2.CU gi rfl rfl ?_⟩
 obtain ⟨c1,cs,c2,c3,c4⟩:=(g2.hold _ (List.mem_of_getElem? gi)).1
 exact ⟨c1,cs,c2,c3.set hk (fun u hu=>by rw [show u=v from hp _ _ _ hu];exact g3),c4⟩
theorem Tr.G2 {Q:Exit→Act→World→Prop} {c:Code} (i j k:Nat) {sz b:Nat} {new:Bool} {T e:TypeId} {ps:List Pr} {rows:List (List Pr)} {v:Value} {p:Pr} (hi:rs[i]? =some (AB new b T ps)) (hj:rs[j]? =some (BQ e sz rows v)) (hij:j≠i) (hk:ps[k]? =some p) (hp:Pr.le p (is v)) (hl:∀r∈rows,r.length=sz)
  (kk:Tr L n E (Hp M0 w0 S ((rs.set j BC).set i (AB new b T (ps.set k (slice sz rows))))) c Q):Tr L n E (Hp M0 w0 S rs) c Q:=Tr.conv (fun _ _ hs=>hs.G2 hi hj hij hk hp hl) kk
end
theorem Yy {β:Type} {f:β→List Pr} {l:List β} {k q m:Nat} {x:β} {qs:List Pr} (h:l[k]? =some x) (hq:(f x).take q++qs++(f x).drop (q+m)=f x):(l.map f).set k ((f x).take q++qs++(f x).drop (q+m))=l.map f:=by
 rw [hq]
 refine List.ext_getElem? fun i=> ?_
 rw [List.getElem?_set]
 by_cases hi:k=i
 ·
  subst hi
  rw [if_pos rfl,List.getElem?_map,h]
  have:=BM h
  rw [if_pos (by rw [List.length_map];exact this)];rfl
 · rw [if_neg hi]
theorem VY {β:Type} {f:β→List Pr} {l:List β} {k q m:Nat} {x:β} {qs:List Pr} (h:l[k]? =some x) (hq:(f x).take q++qs++(f x).drop (q+m)=f x):(l.map f).set ((k:Nat):Int).toNat ((f x).take q++qs++(f x).drop (q+m))=l.map f:=by
 rw [Int.toNat_natCast];exact Yy h hq
section
variable {P:Program} {L:Lg P} {n:Fm} {fz:Nat} {E:Env} {M0:Av} {w0:World} {S:Nat→Prop} {rs:List Ae} {o:Oper} {g:Func} {M1:Av} {w1:World}
theorem Row.hd {M:Av} {w:World} {ad:Addr} {p q:Pr} {ps:List Pr} (h:Row M w ad 0 (p::ps)) (hq:∀u,p.h M w u→q.h M w u):Row M w ad 0 (q::ps):=by
 intro j r hr
 cases j with
 |zero=>
  simp at hr;subst hr
  obtain ⟨u,h1,h2,h3,h4⟩:=h 0 p rfl
  exact ⟨u,h1,h2,h3,hq u h4⟩
 |succ j=>exact h (j+1) r (by simpa using hr)
theorem TO.re {Q:Exit→Act→World→Prop} {ops:Array Oper} {l:List Oper} {I:B6} (s:Nat) {q:Pr} (p:Pr) (hs:E.lookup s=some q) (hl:Pr.le q p) (k:TO P n ops l ((s,p)::E) I Q):TO P n ops l E I Q:=by
 intro m hm a w hst
 refine k m hm a w ?_
 obtain ⟨M,h1,h2,he,h4⟩:=hst
 refine ⟨M,h1,h2,fun s' r hr=> ?_,h4⟩
 simp only [List.lookup] at hr
 split at hr
 ·
  rename_i e1
  have:s'=s:=by simpa using e1
  subst this
  simp only [Option.some.injEq] at hr
  subst hr
  exact hl _ _ _ (he _ _ hs)
 · exact he _ _ hr
theorem Fin.VZ {Q:Exit→Act→World→Prop} {x:Exit} {r r':Ae} (k:Fin n E (Hp M0 w0 S (r'::r::rs)) Q x):Fin n E (Hp M0 w0 S (r::r'::rs)) Q x:=
 Fin.conv (fun _ _ ⟨M,h1,h2,h3,h4⟩=>⟨M,h1,h2,h3,Al.perm (List.Perm.swap _ _ _) h4⟩) k
def O6 (P:Program) (f:FuncId) (args:List Pr) (res:Value→Pr) (post:Value→List Ae):Prop:=JH (α:=Value) P f args [] (fun _=>True) res post
theorem O6.of {f : FuncId} {c : Code} {ps : List Pr} {res : Value → Pr} {post : Value → List Ae} (hf : P.funcs[f]? = some g) (hb : g.body = some c) (hname : (g.name == "runtime.NumGoroutine") = false) (hlen : ps.length ≤ g.ntmps)
  (h:∀M0 w0 S rs M1 w1,Tr (Rt P) g.ntmps (IC 0 ps) (Hp M0 w0 S (AZ M1 w1::rs)) c (bodyPost P g (M4 M0 w0 S rs M1 w1 (fun _:Value=>True) res post))):O6 P f ps res post:=
 JH.of hf hb hname hlen h
theorem Fin.jf {rv:ResultVar} {q:Pr} {res:Value→Pr} {post:Value→List Ae} {rs':List Ae} (v:Value) (dr:List Ae) (hr:g.results= #[rv]) (h:BK P E rs' rv q) (hl:Pr.le q (res v)) (hp:rs'.Perm (dr++(post v++AZ M1 w1::rs))):
  Fin ⟨fz,[]⟩ E (Hp M0 w0 S rs') (bodyPost P g (M4 M0 w0 S rs M1 w1 (fun _:Value=>True) res post)) .ret:=by
 rintro a w ⟨M,_,hd,he,hi⟩
 have hi:Al M0 w0 S rs' M w:=hi
 obtain ⟨u,hu,hp'⟩:=h M w a he (fun q hq=>(hi.hold q hq).1)
 obtain ⟨h1,h2⟩:=VV (Al.aY (Al.perm hp hi))
 exact ⟨hd,u,results1 hr hu,_,M,v,rfl,trivial,hl _ _ _ hp',h1,h2⟩
theorem TO.Vb {Q:Exit→Act→World→Prop} {ops:Array Oper} {r:List Oper} {f:FuncId} {xs:Array Operand} {ts:Array TypeId} {ps:List Pr} {res:Value→Pr} {post:Value→List Ae} {d:Nat} (hg:o.guard=none) (hd:o.dst=some d) (hn:d<n) (ho:o.op= .call { callee:= .value (.func f),args:=xs,argTypes:=ts }) (hf:O6 P f ps res post)
  (hv:GF E xs.toList ps) (k:∀v,TO P n ops r ((d,res v)::E) (Hp M0 w0 S (post v++rs)) Q):TO P n ops (o::r) E (Hp M0 w0 S rs) Q:=
 TO.VU rs hg hd hn ho hf hv (List.Perm.refl _) fun v _=>k v
end
section
variable {P:Program} {L:Lg P} {n:Fm} {fz:Nat} {E:Env} {I:B6} {Q:Exit→Act→World→Prop} {ops:Array Oper} {o:Oper} {r:List Oper} {g j:Nat} {b want:Bool}
theorem TO.cases (g:Nat) {b:Bool} {l:List Oper} (_hb:E.lookup g=some (bool b)) (ht:b=true→TO P n ops l E I Q) (hf:b=false→TO P n ops l E I Q):TO P n ops l E I Q:=by
 cases b
 · exact hf rfl
 · exact ht rfl
theorem TO.jg (hg:o.guard=some (j,want)) (hj:(ops[j]?).bind (·.dst)=some g) (hb:E.lookup g=some (bool b)) (I0:b=want) (h:∀(K:Act→World→Prop) M w (a:Act),a.tmps.size=n.sz→a.defers=n.df→D9 M w E a→I.h M w→
  (∀E' I' a' w',TO P n ops r E' I' Q→St n E' I' a' w'→K a' w')→o.wp P a w K Q):TO P n ops (o::r) E I Q:=by
 intro k hl a w hs
 have h0:ops[k]? =some o:=by simpa using (hl 0).symm
 obtain ⟨M,hn,hd,he,hI⟩:=hs
 simp only [List.length_cons,List.range'_succ,wpS,h0]
 have hy:=GG (M:=M) (w:=w) (b:=some b) hj (he g _ hb)
 rw [FR hg hy,if_pos (by simp [I0])]
 exact (h _ M w a hn hd he hI fun E' I' a' w' hT hst=>hT (k+1) (fun j=>by have:=hl (j+1);simpa [Nat.add_assoc,Nat.add_comm 1 j] using this) a' w' hst)
theorem TO.HT {d:Nat} {p:Pr} (hg:o.guard=some (j,want)) (hj:(ops[j]?).bind (·.dst)=some g) (hb:E.lookup g=some (bool b)) (I0:b=want) (hd:o.dst=some d) (hn:d<n) (h:AR P I o E p) (k:TO P n ops r ((d,p)::E) I Q):TO P n ops (o::r) E I Q:=
 TO.jg hg hj hb I0 fun K M w a h1 h2 h3 h4 hK=>by
  refine E2 (h M w a (B7 h3) h4) fun v w' hv hb'=>hK _ _ _ _ k ⟨M,?_,?_,?_,I.st _ _ _ hb' h4⟩
  · rw [BV];exact h1
  · rw [put_defers];exact h2
  ·
   have:=h3.put (o:=o) (p:=p) hb' hv (fun d' hd'=>by rw [hd] at hd';cases hd';rw [h1];exact hn)
   rw [show upd o p E=(d,p)::E by unfold upd;rw [hd]] at this;exact this
theorem TO.QJ {d:Nat} (hg:o.guard=some (j,want)) (hj:(ops[j]?).bind (·.dst)=some g) (hb:E.lookup g=some (bool b)) (I0:b≠want) (hd:o.dst=some d) (hn:d<n) (kk:TO P n ops r ((d,is undef)::E) I Q):TO P n ops (o::r) E I Q:=by
 intro k hl a w hs
 have h0:ops[k]? =some o:=by simpa using (hl 0).symm
 obtain ⟨M,h1,h2,he,hI⟩:=hs
 simp only [List.length_cons,List.range'_succ,wpS,h0]
 have hy:=GG (M:=M) (w:=w) (b:=some b) hj (he g _ hb)
 rw [FR hg hy,if_neg (by simp [I0])]
 refine kk (k+1) (fun j=>by have:=hl (j+1);simpa [Nat.add_assoc,Nat.add_comm 1 j] using this) _ w ⟨M,by rw [BV];exact h1,by rw [put_defers];exact h2,?_,hI⟩
 have:=he.put (o:=o) (p:=is undef) (v:=undef) (Below.refl w.heap.size w) rfl (fun d' hd'=>by rw [hd] at hd';cases hd';rw [h1];exact hn)
 rw [show upd o (is undef) E=(d,is undef)::E by unfold upd;rw [hd]] at this;exact this
variable {M0:Av} {w0:World} {S:Nat→Prop} {rs:List Ae}
theorem TO.Vc {d:Nat} {p:Pr} (i:Nat) {R:Ae} {R':Ae} (hg:o.guard=some (j,want)) (hj:(ops[j]?).bind (·.dst)=some g) (hb:E.lookup g=some (bool b)) (I0:b=want) (hR:rs[i]? =some R) (hd:o.dst=some d) (hn:d<n) (h:C5 P M0 w0 S n i (SR.c R) (SR.c R') { o with guard:=none } E p)
  (k:TO P n ops r ((d,p)::E) (Hp M0 w0 S (rs.set i R')) Q):TO P n ops (o::r) E (Hp M0 w0 S rs) Q:=
 TO.jg hg hj hb I0 fun K M w a hsz hdf he hI hK=>by
  have hw : ({ o with guard := none } : Oper).wp P a w K Q := I6 (h.2 M w a rs hsz (B7 he) hI hR) fun v w' M' hv hx OV => hK _ _ _ _ k ⟨M', by rw [BV]; exact hsz, by rw [put_defers]; exact hdf, by
   intro s q hq
   simp only [List.lookup] at hq
   by_cases hs:s=d
   · subst hs;simp at hq;subst hq;show p.h M' w' ((a.put o.dst v).tmps.getD s undef);rw [hd,BG (by rw [hsz];exact hn)];exact hv
   · rw [show (s==d)=false by simpa using hs] at hq;show q.h M' w' ((a.put o.dst v).tmps.getD s undef);rw [hd,At hs];exact q.st _ _ _ _ _ hx (he s q hq),OV⟩
  exact hw
end
section
variable {P:Program} {L:Lg P} {E:Env} {I:B6} {o:Oper}
end
end Cp
