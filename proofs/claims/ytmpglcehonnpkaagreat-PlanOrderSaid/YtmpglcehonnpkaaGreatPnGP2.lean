/-
  Part 2 of the texts that prove this claim, merged.
-/
import Derived.ChangeArms
import Derived.OpenShut
import Derived.ChangeSame
import Derived.RowKit
import Derived.ProofKit
import Derived.Laws.MakeOwn
import Derived.Test.YtmpglcehonnpkaaGreatProg
import Derived.KernelRfl
import Derived.Test.YtmpglcehonnpkaaGreatRows
import Derived.Lib.ConvBytes
import Derived.Lib.Bytealg
import Derived.Laws.StructEq
import Derived.Laws.Externs
import Derived.Lib.AtoiErrMem
import Derived.Laws.IdiomRangeMap
import Derived.Sort.LotA
import Derived.Sort.LotB
import Derived.Sort.LotC
import Derived.Lib.AppendZeros
import Derived.Lib.AppendZerosOnto
import Derived.Test.YtmpglcehonnpkaaGreatPnGP1
set_option linter.all false
set_option maxRecDepth 40000
set_option maxHeartbeats 16000000
namespace Cp
open Go Go.RowKit Go.Great Go.ChangeShapes Go.WideShapes
def oo:Av:=fun _ _=>False
theorem jU (w:World):Bd oo w:=fun _ _ h=>h.elim
def KC (P:Program) (t:TypeId) {α:Type} (ok:α→Prop) (f:α→List Pr):Prop:=
 ∀(H:Type) (enc:TypeId×Value→H) (w:World) (fuel:Nat) (cs:List Value) (x:DataW H×List MemPlace),DataW.trod enc P w 0 (fun _=>true) true fuel t cs=some x→∃a,ok a∧HL oo w (f a) cs∧∀c∈cs,c.oneCell'=true
theorem KC.map {P:Program} {t:TypeId} {α β:Type} {ok:α→Prop} {f:α→List Pr} {ok':β→Prop} {f':β→List Pr} (h:KC P t ok f) (g:α→β) (h1:∀a,ok a→ok' (g a)) (h2:∀a,f' (g a)=f a):KC P t ok' f':=by
 intro H enc w fuel cs x hx
 obtain ⟨a,h3,h4,h5⟩:=h H enc w fuel cs x hx
 exact ⟨g a,h1 a h3,by rw [h2];exact h4,h5⟩
theorem WO {P:Program} {t:TypeId} {k:IntKind} (ht:P.underlying t=some (.int k)):KC P t (fun n:Int=>(Lit.int k n).wf=true) (fun n=>[is (.int k n)]):=by
 intro H enc w fuel cs x hx
 obtain ⟨n,rfl,_,hw⟩:=DataW.trod_int ht hx
 exact ⟨n,hw,⟨rfl,trivial⟩,by simp [Value.oneCell']⟩
theorem HL.len {M:Av} {w:World}:∀{ps:List Pr} {vs:List Value},HL M w ps vs→ps.length=vs.length
 |[],[],_=>rfl
 |p::ps,v::vs,h=>by simp [HL.len h.2]
 |[],_::_,h=>h.elim
 |_::_,[],h=>h.elim
theorem HL.nth {M:Av} {w:World}:∀{ps:List Pr} {vs:List Value} (j:Nat) (p:Pr),HL M w ps vs→ps[j]? =some p→∃v,vs[j]? =some v∧p.h M w v
 |p::ps,v::vs,0,q,h,hj=>by simp at hj;subst hj;exact ⟨v,rfl,h.1⟩
 |p::ps,v::vs,j+1,q,h,hj=>by simpa using HL.nth j q h.2 (by simpa using hj)
 |[],[],_,_,_,hj=>by simp at hj
 |[],_::_,_,_,h,_=>h.elim
 |_::_,[],_,_,h,_=>h.elim
theorem NH {H:Type} {enc:TypeId×Value→H} {P:Program} {w:World} {e:TypeId} {α:Type} {ok:α→Prop} {f:α→List Pr} (he:KC P e ok f) {sz:Nat} (hc:P.cellsOf e=sz) {a:Addr} {m:Nat}:
  ∀(len:Nat),(∀i,i<len→∃y,(w.cells? 0 (a.add (i*sz)) sz).bind (DataW.trod enc P w 0 (fun _=>true) true m e)=some y)→
   ∃l:List α,l.length=len∧(∀z∈l,ok z)∧∀(i:Nat) z,l[i]? =some z→(f z).length=sz∧Row oo w a (i*sz) (f z)
 |0,_=>⟨[],rfl,by simp,by simp⟩
 |len+1,h=>by
  obtain ⟨l,h1,h2,h3⟩:=NH he hc len (fun i hi=>h i (by omega))
  obtain ⟨y,hy⟩:=h len (by omega)
  obtain ⟨cs,hcs,hy⟩:=Option.bind_eq_some_iff.1 hy
  obtain ⟨z,hz,hl,h1c⟩:=he H enc w m cs y hy
  obtain ⟨_,hlen,hat⟩:=World.cells?_some hcs
  refine ⟨l++[z],by simp [h1],?_,fun i u hu=> ?_⟩
  ·
   intro u hu
   rcases List.mem_append.1 hu with hu|hu
   · exact h2 u hu
   · rw [List.mem_singleton.1 hu];exact hz
  ·
   rcases Nat.lt_trichotomy i len with hi|hi|hi
   ·
    rw [List.getElem?_append_left (by omega)] at hu
    exact h3 i u hu
   ·
    subst hi
    rw [List.getElem?_append_right (by omega),h1] at hu
    simp at hu;subst hu
    have hfl:(f z).length=sz:=by rw [hl.len,hlen]
    refine ⟨hfl,fun j p hp=> ?_⟩
    obtain ⟨v,hv,X5⟩:=hl.nth j p hp
    have hj:j<sz:=by
     rcases Nat.lt_or_ge j (f z).length with h'|h'
     · omega
     · rw [List.getElem?_eq_none h'] at hp;cases hp
    refine ⟨v,?_,fun hf=>hf,h1c v (List.mem_of_getElem? hv),X5⟩
    rw [←hv,←hat j hj]
    rw [add_add]
   · rw [List.getElem?_eq_none (by simp [h1];omega)] at hu;cases hu
theorem Rc {P:Program} {t e:TypeId} {α:Type} {ok:α→Prop} {f:α→List Pr} {sz:Nat} (ht:P.underlying t=some (.slice e)) (hc:P.cellsOf e=sz) (he:KC P e ok f):
  KC P t (fun l:List α=>(∀z∈l,ok z)∧l.length≤maxLen) (fun l=>[slice sz (l.map f)]):=by
 intro H enc w fuel cs x hx
 rcases DataW.trod_slice ht hx with ⟨rfl,_⟩|⟨a,len,cap,elems,rest,n,rfl,rfl,_,_,hl,hm,hel,hat,_⟩
 · exact ⟨[],⟨by simp,by simp⟩,⟨⟨none,0,rfl,by simp,by simp,fun _=>rfl,by simp⟩,trivial⟩,by simp [Value.oneCell']⟩
 ·
  obtain ⟨l,h1,h2,h3⟩:=NH (H:=H) (enc:=enc) (w:=w) (a:=a) (m:=n) he hc len (fun i hi=>by
   have:=hat i hi
   rw [hc] at this
   rw [this,List.getElem?_eq_getElem (by omega)]
   exact ⟨_,rfl⟩)
  refine ⟨l,⟨h2,by omega⟩,⟨⟨some a,cap,by simp [h1],by simp;omega,hm,by simp,fun i row hr=> ?_⟩,trivial⟩,by simp [Value.oneCell']⟩
  rw [List.getElem?_map] at hr
  cases hz:l[i]? with
  |none=>rw [hz] at hr;cases hr
  |some z=>
   rw [hz] at hr;simp at hr;subst hr
   obtain ⟨h4,h5⟩:=h3 i z hz
   exact ⟨h4,a,rfl,h5⟩
theorem cV {H:Type} {enc:TypeId×Value→H} {P:Program} {w:World} {t:TypeId} {α:Type} {ok:α→Prop} {p:α→Pr} (ho:KC P t ok (fun a=>[p a])) {v:Value} {d:DataW H} {ps:List MemPlace} (h:DataW.Trod enc P w 0 (fun _=>true) true t v d ps) (hv:v.cells= #[v]):
  ∃a,ok a∧(p a).h oo w v:=by
 obtain ⟨fuel,hf⟩:=h
 obtain ⟨a,h1,h2,_⟩:=ho _ _ _ _ _ _ hf
 rw [hv] at h2
 exact ⟨a,h1,h2.1⟩
theorem JE {H:Type} {enc:TypeId×Value→H} {P:Program} (hl:laidOutB P=true) {W W':World} (hb:Below W.heap.size W W'):
  ∀{ts:List TypeId} {vs:List Value} {ds:List (DataW H)} {ps:List MemPlace},ts.all (fun t=>P.readableRec t&&decide (t<P.types.size))=true→DataW.TrodAll enc P W 0 (fun _=>true) true ts vs ds ps→(∀x∈ps,x.block<W.heap.size)→
   DataW.TrodAll enc P W' 0 (fun b=>decide (b<W.heap.size)) true ts vs ds ps
 |[],vs,ds,ps,_,h,_=>by
  obtain ⟨rfl,rfl,rfl⟩:=trodAll_nil h
  rfl
 |t::ts,vs,ds,ps,hr,h,hlt=>by
  obtain ⟨v,vs',d,ds',p,q,rfl,rfl,rfl,h1,h2⟩:=trodAll_cons h
  simp only [List.all_cons,Bool.and_eq_true,decide_eq_true_eq] at hr
  exact ⟨p,q,Below.trod hl hr.1.1 hr.1.2 h1 hb (fun x hx=>hlt x (List.mem_append_left _ hx)),JE hl hb (by simpa using hr.2) h2 (fun x hx=>hlt x (List.mem_append_right _ hx)),rfl⟩
theorem YI {H:Type} {enc:TypeId×Value→H} {P:Program} {fn:Func} {s:ChangeSpec} {W W':World} {args:Array Value} {ds gs:List (DataW H)} {before p:List MemPlace} {tb:TypeId} (hl:laidOutB P=true)
  (hr:fn.params.toList.all (fun t=>P.readableRec t&&decide (t<P.types.size))=true) (hres:fn.resultTypes= #[tb]) (hb:P.underlying tb=some .bool) (hs:s.vars=[])
  (hA:DataW.TrodAll enc P W 0 (fun _=>true) true fn.params.toList args.toList ds p) (hp:before=p) (hW:DataW.Whole enc P fn.params.toList s.vars false W args.toList ds gs before)
  (hf:s.fn H (ds++gs)={ results:=[.lit (.bool true)],args:=ds }) (YJ:Below W.heap.size W W'):s.post enc P fn false true false false W args (.bool true) W':=by
 subst hp
 refine ⟨ds,gs,before,[],before,[],hW,?_,?_,?_,YJ.frame _,fun h=>by cases h⟩
 · rw [hf,hres];exact trodAll_mk1 (shut_bool hb _)
 · rw [hf];exact JE hl YJ hr hA (fun x hx=>by simpa using hW.lt x hx)
 · rw [hf,hs];rfl
end Cp
namespace Cp
open Go Go.RowKit Go.Great
section
variable {P:Program} {L:Lg P} {n:Fm} {fz:Nat} {E:Env} {I:CT} {Q:Exit→Act→World→Prop}
theorem Tr.KD {α0:Type} (K:Env) (hK:CM E K) (F:α0→Env) (Ii:α0→CT) (C:α0→Prop) (μ:α0→Nat) {c:Code} (HN:α0)  (h0:C HN) (hs:CM E (F HN)) (hI:∀M w,I.h M w→(Ii HN).h M w)
  (round:∀x0,C x0→Tr L n (F x0++K) (Ii x0) c (Exit.then (fun a w=>∃C9,(C C9∧μ C9<μ x0)∧St n (F C9++K) (Ii C9) a w) Q)):Tr L n E I (.loop c) Q:=
 Tr.J2 K hK (fun y:α0=>F y) (fun y=>Ii y) (fun y=>C y) (fun y=>μ y) HN h0 hs hI fun y hy=>
  Tr.post (round y hy) fun e a w h=>by
   cases e<;>first|exact h|(obtain ⟨C9,h1,h2⟩:=h;exact ⟨C9,h1,h2⟩)
theorem Fin.KE {α0:Type} {E1:α0→Env} {I1:α0→CT} {C:α0→Prop} (x0:α0)  (hC:C x0) (hs:CM E (E1 x0)) (hI:∀M w,I.h M w→(I1 x0).h M w):
  Fin n E I (Exit.then (fun a w=>∃C9,C C9∧St n (E1 C9) (I1 C9) a w) Q) .normal:=fun _ _ hst=>⟨x0,hC,hst.sub hs hI⟩
theorem Tr.Rd {α0:Type} (K:Env) (hK:CM E K) (F:α0→Value→Env) (Ii:α0→Value→CT) (C:α0→Prop) (μ:α0→Nat) {c:Code} (HN:α0) (QK:Value) (h0:C HN) (hs:CM E (F HN QK)) (hI:∀M w,I.h M w→(Ii HN QK).h M w)
  (round:∀x0 v0,C x0→Tr L n (F x0 v0++K) (Ii x0 v0) c (Exit.then (fun a w=>∃C9 HO,(C C9∧μ C9<μ x0)∧St n (F C9 HO++K) (Ii C9 HO) a w) Q)):Tr L n E I (.loop c) Q:=
 Tr.J2 K hK (fun y:α0×Value=>F y.1 y.2) (fun y=>Ii y.1 y.2) (fun y=>C y.1) (fun y=>μ y.1) (HN,QK) h0 hs hI fun y hy=>
  Tr.post (round y.1 y.2 hy) fun e a w h=>by
   cases e<;>first|exact h|(obtain ⟨C9,HO,h1,h2⟩:=h;exact ⟨(C9,HO),h1,h2⟩)
theorem Fin.U1 {α0:Type} {E1:α0→Value→Env} {I1:α0→Value→CT} {C:α0→Prop} (x0:α0) (v0:Value) (hC:C x0) (hs:CM E (E1 x0 v0)) (hI:∀M w,I.h M w→(I1 x0 v0).h M w):
  Fin n E I (Exit.then (fun a w=>∃C9 HO,C C9∧St n (E1 C9 HO) (I1 C9 HO) a w) Q) .normal:=fun _ _ hst=>⟨x0,v0,hC,hst.sub hs hI⟩
theorem Tr.DG {α0 α1:Type} (K:Env) (hK:CM E K) (F:α0→α1→Env) (Ii:α0→α1→CT) (C:α0→α1→Prop) (μ:α0→α1→Nat) {c:Code} (HN:α0) (KF:α1)  (h0:C HN KF) (hs:CM E (F HN KF)) (hI:∀M w,I.h M w→(Ii HN KF).h M w)
  (round:∀x0 x1,C x0 x1→Tr L n (F x0 x1++K) (Ii x0 x1) c (Exit.then (fun a w=>∃C9 EC,(C C9 EC∧μ C9 EC<μ x0 x1)∧St n (F C9 EC++K) (Ii C9 EC) a w) Q)):Tr L n E I (.loop c) Q:=
 Tr.J2 K hK (fun y:α0×α1=>F y.1 y.2) (fun y=>Ii y.1 y.2) (fun y=>C y.1 y.2) (fun y=>μ y.1 y.2) (HN,KF) h0 hs hI fun y hy=>
  Tr.post (round y.1 y.2 hy) fun e a w h=>by
   cases e<;>first|exact h|(obtain ⟨C9,EC,h1,h2⟩:=h;exact ⟨(C9,EC),h1,h2⟩)
theorem Fin.DD {α0 α1:Type} {E1:α0→α1→Env} {I1:α0→α1→CT} {C:α0→α1→Prop} (x0:α0) (x1:α1)  (hC:C x0 x1) (hs:CM E (E1 x0 x1)) (hI:∀M w,I.h M w→(I1 x0 x1).h M w):
  Fin n E I (Exit.then (fun a w=>∃C9 EC,C C9 EC∧St n (E1 C9 EC) (I1 C9 EC) a w) Q) .normal:=fun _ _ hst=>⟨x0,x1,hC,hst.sub hs hI⟩
theorem Tr.Cc {α0 α1:Type} (K:Env) (hK:CM E K) (F:α0→α1→Value→Env) (Ii:α0→α1→Value→CT) (C:α0→α1→Prop) (μ:α0→α1→Nat) {c:Code} (HN:α0) (KF:α1) (QK:Value) (h0:C HN KF) (hs:CM E (F HN KF QK)) (hI:∀M w,I.h M w→(Ii HN KF QK).h M w)
  (round:∀x0 x1 v0,C x0 x1→Tr L n (F x0 x1 v0++K) (Ii x0 x1 v0) c (Exit.then (fun a w=>∃C9 EC HO,(C C9 EC∧μ C9 EC<μ x0 x1)∧St n (F C9 EC HO++K) (Ii C9 EC HO) a w) Q)):Tr L n E I (.loop c) Q:=
 Tr.J2 K hK (fun y:α0×α1×Value=>F y.1 y.2.1 y.2.2) (fun y=>Ii y.1 y.2.1 y.2.2) (fun y=>C y.1 y.2.1) (fun y=>μ y.1 y.2.1) (HN,KF,QK) h0 hs hI fun y hy=>
  Tr.post (round y.1 y.2.1 y.2.2 hy) fun e a w h=>by
   cases e<;>first|exact h|(obtain ⟨C9,EC,HO,h1,h2⟩:=h;exact ⟨(C9,EC,HO),h1,h2⟩)
theorem Fin.BM {α0 α1:Type} {E1:α0→α1→Value→Env} {I1:α0→α1→Value→CT} {C:α0→α1→Prop} (x0:α0) (x1:α1) (v0:Value) (hC:C x0 x1) (hs:CM E (E1 x0 x1 v0)) (hI:∀M w,I.h M w→(I1 x0 x1 v0).h M w):
  Fin n E I (Exit.then (fun a w=>∃C9 EC HO,C C9 EC∧St n (E1 C9 EC HO) (I1 C9 EC HO) a w) Q) .normal:=fun _ _ hst=>⟨x0,x1,v0,hC,hst.sub hs hI⟩
theorem Tr.NI {α0 α1 α2:Type} (K:Env) (hK:CM E K) (F:α0→α1→α2→Env) (Ii:α0→α1→α2→CT) (C:α0→α1→α2→Prop) (μ:α0→α1→α2→Nat) {c:Code} (HN:α0) (KF:α1) (QL:α2)  (h0:C HN KF QL) (hs:CM E (F HN KF QL)) (hI:∀M w,I.h M w→(Ii HN KF QL).h M w)
  (round:∀x0 x1 x2,C x0 x1 x2→Tr L n (F x0 x1 x2++K) (Ii x0 x1 x2) c (Exit.then (fun a w=>∃C9 EC Gj,(C C9 EC Gj∧μ C9 EC Gj<μ x0 x1 x2)∧St n (F C9 EC Gj++K) (Ii C9 EC Gj) a w) Q)):Tr L n E I (.loop c) Q:=
 Tr.J2 K hK (fun y:α0×α1×α2=>F y.1 y.2.1 y.2.2) (fun y=>Ii y.1 y.2.1 y.2.2) (fun y=>C y.1 y.2.1 y.2.2) (fun y=>μ y.1 y.2.1 y.2.2) (HN,KF,QL) h0 hs hI fun y hy=>
  Tr.post (round y.1 y.2.1 y.2.2 hy) fun e a w h=>by
   cases e<;>first|exact h|(obtain ⟨C9,EC,Gj,h1,h2⟩:=h;exact ⟨(C9,EC,Gj),h1,h2⟩)
theorem Fin.E_ {α0 α1 α2:Type} {E1:α0→α1→α2→Env} {I1:α0→α1→α2→CT} {C:α0→α1→α2→Prop} (x0:α0) (x1:α1) (x2:α2)  (hC:C x0 x1 x2) (hs:CM E (E1 x0 x1 x2)) (hI:∀M w,I.h M w→(I1 x0 x1 x2).h M w):
  Fin n E I (Exit.then (fun a w=>∃C9 EC Gj,C C9 EC Gj∧St n (E1 C9 EC Gj) (I1 C9 EC Gj) a w) Q) .normal:=fun _ _ hst=>⟨x0,x1,x2,hC,hst.sub hs hI⟩
theorem Tr.Ec {α0 α1 α2:Type} (K:Env) (hK:CM E K) (F:α0→α1→α2→Value→Env) (Ii:α0→α1→α2→Value→CT) (C:α0→α1→α2→Prop) (μ:α0→α1→α2→Nat) {c:Code} (HN:α0) (KF:α1) (QL:α2) (QK:Value) (h0:C HN KF QL) (hs:CM E (F HN KF QL QK)) (hI:∀M w,I.h M w→(Ii HN KF QL QK).h M w)
  (round:∀x0 x1 x2 v0,C x0 x1 x2→Tr L n (F x0 x1 x2 v0++K) (Ii x0 x1 x2 v0) c (Exit.then (fun a w=>∃C9 EC Gj HO,(C C9 EC Gj∧μ C9 EC Gj<μ x0 x1 x2)∧St n (F C9 EC Gj HO++K) (Ii C9 EC Gj HO) a w) Q)):Tr L n E I (.loop c) Q:=
 Tr.J2 K hK (fun y:α0×α1×α2×Value=>F y.1 y.2.1 y.2.2.1 y.2.2.2) (fun y=>Ii y.1 y.2.1 y.2.2.1 y.2.2.2) (fun y=>C y.1 y.2.1 y.2.2.1) (fun y=>μ y.1 y.2.1 y.2.2.1) (HN,KF,QL,QK) h0 hs hI fun y hy=>
  Tr.post (round y.1 y.2.1 y.2.2.1 y.2.2.2 hy) fun e a w h=>by
   cases e<;>first|exact h|(obtain ⟨C9,EC,Gj,HO,h1,h2⟩:=h;exact ⟨(C9,EC,Gj,HO),h1,h2⟩)
theorem Fin.DU {α0 α1 α2:Type} {E1:α0→α1→α2→Value→Env} {I1:α0→α1→α2→Value→CT} {C:α0→α1→α2→Prop} (x0:α0) (x1:α1) (x2:α2) (v0:Value) (hC:C x0 x1 x2) (hs:CM E (E1 x0 x1 x2 v0)) (hI:∀M w,I.h M w→(I1 x0 x1 x2 v0).h M w):
  Fin n E I (Exit.then (fun a w=>∃C9 EC Gj HO,C C9 EC Gj∧St n (E1 C9 EC Gj HO) (I1 C9 EC Gj HO) a w) Q) .normal:=fun _ _ hst=>⟨x0,x1,x2,v0,hC,hst.sub hs hI⟩
theorem Tr.YK {α0 α1 α2 α3:Type} (K:Env) (hK:CM E K) (F:α0→α1→α2→α3→Value→Env) (Ii:α0→α1→α2→α3→Value→CT) (C:α0→α1→α2→α3→Prop) (μ:α0→α1→α2→α3→Nat) {c:Code} (HN:α0) (KF:α1) (QL:α2) (cW:α3) (QK:Value) (h0:C HN KF QL cW) (hs:CM E (F HN KF QL cW QK)) (hI:∀M w,I.h M w→(Ii HN KF QL cW QK).h M w)
  (round:∀x0 x1 x2 x3 v0,C x0 x1 x2 x3→Tr L n (F x0 x1 x2 x3 v0++K) (Ii x0 x1 x2 x3 v0) c (Exit.then (fun a w=>∃C9 EC Gj Of HO,(C C9 EC Gj Of∧μ C9 EC Gj Of<μ x0 x1 x2 x3)∧St n (F C9 EC Gj Of HO++K) (Ii C9 EC Gj Of HO) a w) Q)):Tr L n E I (.loop c) Q:=
 Tr.J2 K hK (fun y:α0×α1×α2×α3×Value=>F y.1 y.2.1 y.2.2.1 y.2.2.2.1 y.2.2.2.2) (fun y=>Ii y.1 y.2.1 y.2.2.1 y.2.2.2.1 y.2.2.2.2) (fun y=>C y.1 y.2.1 y.2.2.1 y.2.2.2.1) (fun y=>μ y.1 y.2.1 y.2.2.1 y.2.2.2.1) (HN,KF,QL,cW,QK) h0 hs hI fun y hy=>
  Tr.post (round y.1 y.2.1 y.2.2.1 y.2.2.2.1 y.2.2.2.2 hy) fun e a w h=>by
   cases e<;>first|exact h|(obtain ⟨C9,EC,Gj,Of,HO,h1,h2⟩:=h;exact ⟨(C9,EC,Gj,Of,HO),h1,h2⟩)
theorem Fin.cX {α0 α1 α2 α3:Type} {E1:α0→α1→α2→α3→Value→Env} {I1:α0→α1→α2→α3→Value→CT} {C:α0→α1→α2→α3→Prop} (x0:α0) (x1:α1) (x2:α2) (x3:α3) (v0:Value) (hC:C x0 x1 x2 x3) (hs:CM E (E1 x0 x1 x2 x3 v0)) (hI:∀M w,I.h M w→(I1 x0 x1 x2 x3 v0).h M w):
  Fin n E I (Exit.then (fun a w=>∃C9 EC Gj Of HO,C C9 EC Gj Of∧St n (E1 C9 EC Gj Of HO) (I1 C9 EC Gj Of HO) a w) Q) .normal:=fun _ _ hst=>⟨x0,x1,x2,x3,v0,hC,hst.sub hs hI⟩
theorem Tr.YL {α0 α1 α2 α3:Type} (K:Env) (hK:CM E K) (F:α0→α1→α2→α3→Value→Value→Env) (Ii:α0→α1→α2→α3→Value→Value→CT) (C:α0→α1→α2→α3→Prop) (μ:α0→α1→α2→α3→Nat) {c:Code} (HN:α0) (KF:α1) (QL:α2) (cW:α3) (QK:Value) (v1s:Value) (h0:C HN KF QL cW) (hs:CM E (F HN KF QL cW QK v1s)) (hI:∀M w,I.h M w→(Ii HN KF QL cW QK v1s).h M w)
  (round:∀x0 x1 x2 x3 v0 v1,C x0 x1 x2 x3→Tr L n (F x0 x1 x2 x3 v0 v1++K) (Ii x0 x1 x2 x3 v0 v1) c (Exit.then (fun a w=>∃C9 EC Gj Of HO v1',(C C9 EC Gj Of∧μ C9 EC Gj Of<μ x0 x1 x2 x3)∧St n (F C9 EC Gj Of HO v1'++K) (Ii C9 EC Gj Of HO v1') a w) Q)):Tr L n E I (.loop c) Q:=
 Tr.J2 K hK (fun y:α0×α1×α2×α3×Value×Value=>F y.1 y.2.1 y.2.2.1 y.2.2.2.1 y.2.2.2.2.1 y.2.2.2.2.2) (fun y=>Ii y.1 y.2.1 y.2.2.1 y.2.2.2.1 y.2.2.2.2.1 y.2.2.2.2.2) (fun y=>C y.1 y.2.1 y.2.2.1 y.2.2.2.1) (fun y=>μ y.1 y.2.1 y.2.2.1 y.2.2.2.1) (HN,KF,QL,cW,QK,v1s) h0 hs hI fun y hy=>
  Tr.post (round y.1 y.2.1 y.2.2.1 y.2.2.2.1 y.2.2.2.2.1 y.2.2.2.2.2 hy) fun e a w h=>by
   cases e<;>first|exact h|(obtain ⟨C9,EC,Gj,Of,HO,v1',h1,h2⟩:=h;exact ⟨(C9,EC,Gj,Of,HO,v1'),h1,h2⟩)
theorem Fin.cY {α0 α1 α2 α3:Type} {E1:α0→α1→α2→α3→Value→Value→Env} {I1:α0→α1→α2→α3→Value→Value→CT} {C:α0→α1→α2→α3→Prop} (x0:α0) (x1:α1) (x2:α2) (x3:α3) (v0:Value) (v1:Value) (hC:C x0 x1 x2 x3) (hs:CM E (E1 x0 x1 x2 x3 v0 v1)) (hI:∀M w,I.h M w→(I1 x0 x1 x2 x3 v0 v1).h M w):
  Fin n E I (Exit.then (fun a w=>∃C9 EC Gj Of HO v1',C C9 EC Gj Of∧St n (E1 C9 EC Gj Of HO v1') (I1 C9 EC Gj Of HO v1') a w) Q) .normal:=fun _ _ hst=>⟨x0,x1,x2,x3,v0,v1,hC,hst.sub hs hI⟩
end
structure DS where
 l:List Int
 at_:Nat
 h:at_≤l.length
 h2:l.length≤1000000000
def DS.val (s:DS) (n:Int):Int:=match s.l[s.at_]? with|some x=>x % n|none=>0
def DS.CE (s:DS):DS:=if h:s.at_<s.l.length then ⟨s.l,s.at_+1,h,s.h2⟩ else s
theorem DS.Cf (s:DS) {n:Int} (hn:1≤n):0≤s.val n∧s.val n<n:=by
 unfold DS.val
 split
 · exact ⟨Int.emod_nonneg _ (by omega),Int.emod_lt_of_pos _ (by omega)⟩
 · omega
theorem DS.cZ {s:DS} (h:s.l.length≤s.at_) (n:Int):s.val n=0:=by
 unfold DS.val;rw [List.getElem?_eq_none h]
theorem DS.cj {s:DS} (h:s.l.length≤s.at_):s.CE=s:=by
 unfold DS.CE;rw [dif_neg (by omega)]
theorem DS.jV {s:DS} {x:Int} (h:s.l[s.at_]? =some x) (n:Int):s.val n=x % n:=by
 unfold DS.val;rw [h]
theorem DS.jW {s:DS} (h:s.at_<s.l.length):s.CE=⟨s.l,s.at_+1,h,s.h2⟩:=by
 unfold DS.CE;rw [dif_pos h]
def K4 (s:DS):List Pr:=[slice 1 (s.l.map fun n=>[int n]),int ((s.at_:Nat):Int)]
def Re (T:TypeId) (b:Nat) (s:DS):As:=AE true b T (K4 s)
def HP (T:TypeId) (b:Nat):As:=J9 true b T (fun _:DS=>True) K4
def DS.of (s:DS) (l:List Int):Int:=(l[(s.val l.length).toNat]?).getD 0
theorem DS.NJ (s:DS) {l:List Int} (h:l≠[]):s.of l∈l:=by
 have h0:1≤(l.length:Int):=by
  have:=List.length_pos_iff.2 h
  omega
 have:=s.Cf h0
 unfold DS.of
 rw [List.getElem?_eq_getElem (by omega)]
 exact List.getElem_mem _
section
variable {P:Program} {L:Lg P} {n:Fm} {fz:Nat} {E:Env} {M0:Av} {w0:World} {S:Nat→Prop} {rs:List As}
theorem Tr.O_ {Q:Exit→Act→World→Prop} {c:Code} (i:Nat) {T:TypeId} {b:Nat} (hi:rs[i]? =some (HP T b)) (k:∀s,Tr L n E (Hp M0 w0 S (rs.set i (Re T b s))) c Q):Tr L n E (Hp M0 w0 S rs) c Q:=
 Tr.oZ i hi fun s _=>k s
theorem Fin.O_ {Q:Exit→Act→World→Prop} {e:Exit} (i:Nat) {T:TypeId} {b:Nat} (hi:rs[i]? =some (HP T b)) (k:∀s,Fin n E (Hp M0 w0 S (rs.set i (Re T b s))) Q e):Fin n E (Hp M0 w0 S rs) Q e:=by
 rintro a w ⟨M,h1,h2,h3,h4⟩
 have h4:A8 M0 w0 S rs M w:=h4
 obtain ⟨x,hx,hh⟩:=(h4.hold _ (List.mem_of_getElem? hi)).1
 exact k x a w ⟨M,h1,h2,h3,h4.Cm hi rfl rfl hh⟩
theorem Fin.Fv {Q:Exit→Act→World→Prop} {e:Exit} (i:Nat) {T:TypeId} {b:Nat} (s:DS) {ps:List Pr} (hi:rs[i]? =some (AE true b T ps)) (hp:ps=K4 s) (k:Fin n E (Hp M0 w0 S (rs.set i (HP T b))) Q e):Fin n E (Hp M0 w0 S rs) Q e:=
 Fin.K3 i (fun _=>True) K4 s trivial hi hp k
theorem Tr.Fv {Q:Exit→Act→World→Prop} {c:Code} (i:Nat) {T:TypeId} {b:Nat} (s:DS) {ps:List Pr} (hi:rs[i]? =some (AE true b T ps)) (hp:ps=K4 s) (k:Tr L n E (Hp M0 w0 S (rs.set i (HP T b))) c Q):Tr L n E (Hp M0 w0 S rs) c Q:=
 Tr.K3 i (fun _=>True) K4 s trivial hi hp k
theorem TO.K5 {ops:Array Oper} {l:List Oper} {Q:Exit→Act→World→Prop} (s j:Nat) {v:Value} {f:Value→As} (g:Nat→As) (hs:E.lookup s=some (Ag v (Cp.ex fun b=>ptr b 0))) (hi:rs[j]? =some (f v)) (hf:∀b,f (.pointer (some ⟨b,0,none⟩))=g b)
  (k:∀b,TO P n ops l ((s,ptr b 0)::E) (Hp M0 w0 S (rs.set j (g b))) Q):TO P n ops l E (Hp M0 w0 S rs) Q:=by
 intro k0 hl a w hst
 obtain ⟨M,h1,h2,he,h4⟩:=hst
 obtain ⟨h5,b,h6⟩:=he s _ hs
 have hv:v= .pointer (some ⟨b,0,none⟩):=by rw [←h5];exact h6
 have hj:rs.set j (g b)=rs:=by
  have hjl:j<rs.length:=by rcases Nat.lt_or_ge j rs.length with h|h;exact h;rw [List.getElem?_eq_none h] at hi;cases hi
  rw [←hf b,←hv]
  rw [List.getElem?_eq_getElem hjl] at hi
  simp at hi
  rw [←hi,List.set_getElem_self]
 refine k b k0 hl a w ⟨M,h1,h2,?_,by rw [hj];exact h4⟩
 intro t q hq
 simp only [List.lookup] at hq
 by_cases ht:t=s
 · subst ht;simp at hq;subst hq;exact h6
 · rw [show (t==s)=false by simpa using ht] at hq;exact he t q hq
def GY (r:ResultVar) (a:Act):Sem Value:=match r with| .tmp t=>pure (a.tmps.getD t undef)| .cell c t=>do loadVar t (←asAddr (a.tmps.getD c undef))
def AP (P:Program) (E:Env) (rs:List As) (r:ResultVar) (p:Pr):Prop:=∀(M:Av) (w:World) (a:Act),En M w E a→(∀q∈rs,q.h M w)→∃v,(GY r a).run P w= .ok v w∧p.h M w v
theorem AP.tmp {t:Tmp} {q p:Pr} (h:E.lookup t=some q) (hl:Pr.le q p):AP P E rs (.tmp t) p:=fun _ _ _ he _=>⟨_,rfl,hl _ _ _ (he _ _ h)⟩
theorem AP.cell (i:Nat) {c:Tmp} {t T:TypeId} {b m:Nat} {new:Bool} {ps:List Pr} {p:Pr} (h:E.lookup c=some (ptr b 0)) (hi:rs[i]? =some (AE new b T ps)) (ht:Ev P t=true) (hz:Ax P t=some m) (hm:ps.length=m) (hl:Pr.le (agg ps) p):AP P E rs (.cell c t) p:=by
 intro M w a he hr
 obtain ⟨v,h1,h2⟩:=YE ht hz hm (hr _ (List.mem_of_getElem? hi))
 refine ⟨v,?_,hl _ _ _ h2⟩
 have hc:a.tmps.getD c undef= .pointer (some ⟨b,0,none⟩):=he _ _ h
 unfold GY
 simp only [hc,asAddr]
 simpa [Sem.run_bind] using h1
theorem Fw (g:Func) (a:Act):results g a.tmps=(do let vs ←g.results.mapM (fun r=>GY r a);pure (if h:vs.size=1 then vs[0] else .tuple vs)):=by
 have:(fun r:ResultVar=>GY r a)=(fun| .tmp t=>pure (a.tmps.getD t undef)| .cell c t=>do loadVar t (←asAddr (a.tmps.getD c undef))):=by
  funext r;cases r<;>rfl
 rw [this];rfl
theorem results1 {g:Func} {r:ResultVar} {a:Act} {w:World} {v:Value} (hr:g.results= #[r]) (h:(GY r a).run P w= .ok v w):(results g a.tmps).run P w= .ok v w:=by
 rw [Fw,hr];simp [Sem.run_bind,h]
theorem results2 {g:Func} {r r':ResultVar} {a:Act} {w:World} {v v':Value} (hr:g.results= #[r,r']) (h:(GY r a).run P w= .ok v w) (h':(GY r' a).run P w= .ok v' w):(results g a.tmps).run P w= .ok (.tuple #[v,v']) w:=by
 rw [Fw,hr];simp [Sem.run_bind,h,h']
theorem results3 {g:Func} {r r' r'':ResultVar} {a:Act} {w:World} {v v' v'':Value} (hr:g.results= #[r,r',r'']) (h:(GY r a).run P w= .ok v w) (h':(GY r' a).run P w= .ok v' w) (h'':(GY r'' a).run P w= .ok v'' w):(results g a.tmps).run P w= .ok (.tuple #[v,v',v'']) w:=by
 rw [Fw,hr];simp [Sem.run_bind,h,h',h'']
theorem A8.QM {M:Av} {w:World}:∀{pre:List As},A8 M0 w0 S (pre++rs) M w→A8 M0 w0 S rs M w
 |[],h=>h
 |_::_,h=>A8.QM h.O4
variable {g:Func} {M1:Av} {w1:World}
theorem Fin.CJ {r:ResultVar} {p q:Pr} (hr:g.results= #[r]) (h:AP P E rs r q) (hl:Pr.le q p):Fin ⟨fz,[]⟩ E (Hp M0 w0 Eo rs) (bodyPost P g (Ob M0 w0 p)) .ret:=by
 rintro a w ⟨M,_,hd,he,hi⟩
 obtain ⟨v,hv,hp⟩:=h M w a he (fun q hq=>(hi.hold q hq).1)
 obtain ⟨h1,h2⟩:=BE.CZ M0 w0 M w hi
 exact ⟨hd,v,results1 hr hv,_,rfl,p.st _ _ _ _ _ (Ext.less h1) (hl _ _ _ hp),h2⟩
theorem Fin.BD {r r':ResultVar} {p q q':Pr} (hr:g.results= #[r,r']) (h:AP P E rs r q) (h':AP P E rs r' q') (hl:Pr.le (EI [q,q']) p):Fin ⟨fz,[]⟩ E (Hp M0 w0 Eo rs) (bodyPost P g (Ob M0 w0 p)) .ret:=by
 rintro a w ⟨M,_,hd,he,hi⟩
 obtain ⟨v,hv,hp⟩:=h M w a he (fun q hq=>(hi.hold q hq).1)
 obtain ⟨v',jX,hp'⟩:=h' M w a he (fun q hq=>(hi.hold q hq).1)
 obtain ⟨h1,h2⟩:=BE.CZ M0 w0 M w hi
 exact ⟨hd,_,results2 hr hv jX,_,rfl,p.st _ _ _ _ _ (Ext.less h1) (hl _ _ _ ⟨[_,_],rfl,hp,hp',trivial⟩),h2⟩
theorem Fin.ES {r r' r'':ResultVar} {p q q' X6:Pr} (hr:g.results= #[r,r',r'']) (h:AP P E rs r q) (h':AP P E rs r' q') (h'':AP P E rs r'' X6) (hl:Pr.le (EI [q,q',X6]) p):Fin ⟨fz,[]⟩ E (Hp M0 w0 Eo rs) (bodyPost P g (Ob M0 w0 p)) .ret:=by
 rintro a w ⟨M,_,hd,he,hi⟩
 obtain ⟨v,hv,hp⟩:=h M w a he (fun q hq=>(hi.hold q hq).1)
 obtain ⟨v',jX,hp'⟩:=h' M w a he (fun q hq=>(hi.hold q hq).1)
 obtain ⟨v'',YM,YN⟩:=h'' M w a he (fun q hq=>(hi.hold q hq).1)
 obtain ⟨h1,h2⟩:=BE.CZ M0 w0 M w hi
 exact ⟨hd,_,results3 hr hv jX YM,_,rfl,p.st _ _ _ _ _ (Ext.less h1) (hl _ _ _ ⟨[_,_,_],rfl,hp,hp',YN,trivial⟩),h2⟩
theorem Fin.Fx (pre:List As) {r:ResultVar} {R:As} {R':Value→As} {p q:Pr} (hr:g.results= #[r]) (h:AP P E (pre++R::At M1 w1::rs) r q) (hl:Pr.le q p) (hR:∀M w v,q.h M w v→R' v=R):
  Fin ⟨fz,[]⟩ E (Hp M0 w0 S (pre++R::At M1 w1::rs)) (bodyPost P g (O5 M0 w0 S rs M1 w1 p R')) .ret:=by
 rintro a w ⟨M,_,hd,he,hi⟩
 obtain ⟨v,hv,hp⟩:=h M w a he (fun q hq=>(hi.hold q hq).1)
 obtain ⟨h1,h2⟩:=cN (A8.QM hi)
 exact ⟨hd,v,results1 hr hv,_,M,rfl,hl _ _ _ hp,h1,by rw [hR _ _ _ hp];exact h2⟩
theorem Fin.gw (pre:List As) {r r' r'':ResultVar} {R:As} {p q q' X6:Pr} (hr:g.results= #[r,r',r'']) (h:AP P E (pre++R::At M1 w1::rs) r q) (h':AP P E (pre++R::At M1 w1::rs) r' q') (h'':AP P E (pre++R::At M1 w1::rs) r'' X6) (hl:Pr.le (EI [q,q',X6]) p):
  Fin ⟨fz,[]⟩ E (Hp M0 w0 S (pre++R::At M1 w1::rs)) (bodyPost P g (O5 M0 w0 S rs M1 w1 p (fun _=>R))) .ret:=by
 rintro a w ⟨M,_,hd,he,hi⟩
 obtain ⟨v,hv,hp⟩:=h M w a he (fun q hq=>(hi.hold q hq).1)
 obtain ⟨v',jX,hp'⟩:=h' M w a he (fun q hq=>(hi.hold q hq).1)
 obtain ⟨v'',YM,YN⟩:=h'' M w a he (fun q hq=>(hi.hold q hq).1)
 obtain ⟨h1,h2⟩:=cN (A8.QM hi)
 exact ⟨hd,_,results3 hr hv jX YM,_,M,rfl,hl _ _ _ ⟨[_,_,_],rfl,hp,hp',YN,trivial⟩,h1,h2⟩
theorem AG {α:Type} {p:α→Pr} {q:Pr} (x:α) (h:Pr.le q (p x)):Pr.le q (Cp.ex p):=fun M w v hv=>⟨x,h M w v hv⟩
theorem AU {φ:Prop} {p q:Pr} (hφ:φ) (h:Pr.le q p):Pr.le q (fact φ p):=fun M w v hv=>⟨hφ,h M w v hv⟩
end
section
variable {P:Program} {L:Lg P} {n:Fm} {fz:Nat} {E:Env} {M0:Av} {w0:World} {S:Nat→Prop} {rs:List SR} {o:Oper}
theorem Fg {t:TypeId} {x:Operand} {q:Tmp} {j:Nat} {new:Bool} {b off:Nat} {T:TypeId} {ps:List Pr} {p:Pr} [One p] (hg:o.guard=none) (hd:o.dst=none) (ho:o.op= .store t x (.tmp q)) (hx:VL E x (ptr b off)) (hy:E.lookup q=some p)
  (hz:Ax P t=some 1) (hl:off+1≤ps.length):Dn P M0 w0 S n j (SR.c (AE new b T ps)) ⟨q,fun v=>AE new b T (ps.take off++[Ag v p]++ps.drop (off+1))⟩ o E any:=by
 refine ⟨hg,fun M w a rs hsz he hI hj=> ?_⟩
 have h1:a.eval x= .pointer (some ⟨b,off,none⟩):=hx.ev he (by simp [ho,Op.operands])
 have hv:VL E (.tmp q) p:=⟨_,hy,Pr.le_refl _⟩
 have hp:=hv.ev he (show (Operand.tmp q)∈o.op.operands.toList by simp [ho,Op.operands])
 obtain ⟨h2,h3⟩:=(VL.le hv (Aj p)).ev he (show (Operand.tmp q)∈o.op.operands.toList by simp [ho,Op.operands])
 obtain ⟨⟨_,cs,h4,h5,h6⟩,_⟩:=hI.hold _ (List.mem_of_getElem? hj)
 have n7:=h5.length
 have gb:=h2.length
 have hone:(a.eval (.tmp q)).cells= #[a.eval (.tmp q)]:=(One.one (p:=p) M w _ hp).1
 have h2':HL M w [Ag (a.eval (.tmp q)) p] (a.eval (.tmp q)).cells.toList:=by rw [hone];exact ⟨⟨rfl,hp⟩,trivial⟩
 have hcells:(a.eval (.tmp q)).cells.size=1:=by rw [hone];rfl
 have hrun:(storeCells ⟨b,off,none⟩ (a.eval (.tmp q)).cells.toList 0).run P w= .ok () (w.setRow b (cs.take off++(a.eval (.tmp q)).cells.toList++cs.drop (off+1)).toArray):=by
  have:=run_storeCells_at (P:=P) b off T (a.eval (.tmp q)).cells.toList 0 cs.toArray w h4 (by simp [hcells];omega) h3
  simpa [hcells] using this
 have Fu:(execOp a.eval o).run P w= .ok .skip (w.setRow b (cs.take off++(a.eval (.tmp q)).cells.toList++cs.drop (off+1)).toArray):=by
  simp [execOp,ho,h1,Instr.storeAt,Instr.sureAddr,storeVar,Cl hz,hcells,hrun]
 rw [Fu]
 obtain ⟨h7, h8⟩ := A8.write (qs := ps.take off ++ [Ag (a.eval (.tmp q)) p] ++ ps.drop (off + 1)) (cs := cs.take off ++ (a.eval (.tmp q)).cells.toList ++ cs.drop (off + 1)) hI hj ((((h5.take off).app h2')).app (h5.drop (off + 1)))
  (fun c hc=>by
   simp only [List.mem_append] at hc
   rcases hc with (hc|hc)|hc
   · exact h6 c (List.mem_of_mem_take hc)
   · exact h3 c hc
   · exact h6 c (List.mem_of_mem_drop hc))
 refine ⟨M,trivial,h8,?_⟩
 have hput:SR.at_ (a.put o.dst undef) ⟨q,fun v=>AE new b T (ps.take off++[Ag v p]++ps.drop (off+1))⟩=AE new b T (ps.take off++[Ag (a.eval (.tmp q)) p]++ps.drop (off+1)):=by rw [hd];rfl
 rw [hput];exact h7
theorem YO {j s:Nat} {f:Value→As} (hR:rs[j]? =some ⟨s,f⟩) (a:Act):(rs.set j (SR.c (f (a.tmps.getD s undef)))).map (·.at_ a)=rs.map (·.at_ a):=by
 rw [List.map_set]
 apply List.ext_getElem?
 intro i
 rw [List.getElem?_set]
 by_cases hij:j=i
 ·
  subst hij
  rw [if_pos rfl]
  split
  · rw [List.getElem?_map,hR];rfl
  ·
   rename_i hge
   rw [List.getElem?_eq_none (by omega)]
 · rw [if_neg hij]
theorem BQ.PB {Q:Exit→Act→World→Prop} (j i s:Nat) {f g:Value→As} {p:Pr} (hR:rs[j]? =some ⟨s,f⟩) (hR':rs[i]? =some ⟨s,g⟩) (hij:j≠i) (hs:E.lookup s=some p) (k:∀v,BQ n M0 w0 S ((s,Ag v p)::E) ((rs.set j (SR.c (f v))).set i (SR.c (g v))) Q):BQ n M0 w0 S E rs Q:=by
 rintro a w ⟨M,h1,h2,h3,h4⟩
 refine k (a.tmps.getD s undef) a w ⟨M,h1,h2,?_,?_⟩
 ·
  intro t q hq
  simp only [List.lookup] at hq
  by_cases ht:t=s
  · subst ht;simp only [beq_self_eq_true,Option.some.injEq] at hq;subst hq;exact ⟨rfl,h3 t p hs⟩
  · rw [show (t==s)=false by simpa using ht] at hq;exact h3 t q hq
 · rw [YO (rs:=rs.set j (SR.c (f (a.tmps.getD s undef)))) (j:=i) (s:=s) (f:=g) (by rw [List.getElem?_set,if_neg hij];exact hR') a,YO hR a];exact h4
end
section
variable {P:Program} {L:Lg P} {n:Fm} {fz:Nat} {E:Env} {M0:Av} {w0:World} {S:Nat→Prop} {rs:List As}
theorem St.IC (j:Nat) {new:Bool} {b:Nat} {T:TypeId} {ps qs:List Pr} (hi:rs[j]? =some (AE new b T ps)) (h:OW ps qs) {a:Act} {w:World} (hs:St n E (Hp M0 w0 S rs) a w):St n E (Hp M0 w0 S (rs.set j (AE new b T qs))) a w:=by
 obtain ⟨M,h1,h2,h3,h4⟩:=hs
 have h4:A8 M0 w0 S rs M w:=h4
 obtain ⟨h5,cs,h6,h7,h8⟩:=(h4.hold _ (List.mem_of_getElem? hi)).1
 exact ⟨M,h1,h2,h3,h4.Cm hi rfl rfl ⟨h5,cs,h6,h.hl h7,h8⟩⟩
theorem Tr.IC {Q:Exit→Act→World→Prop} {c:Code} (j:Nat) {new:Bool} {b:Nat} {T:TypeId} {ps:List Pr} (qs:List Pr) (hi:rs[j]? =some (AE new b T ps)) (h:OW ps qs) (k:Tr L n E (Hp M0 w0 S (rs.set j (AE new b T qs))) c Q):Tr L n E (Hp M0 w0 S rs) c Q:=
 Tr.conv (fun _ _ hs=>hs.IC j hi h) k
theorem Fin.IC {Q:Exit→Act→World→Prop} {e:Exit} (j:Nat) {new:Bool} {b:Nat} {T:TypeId} {ps:List Pr} (qs:List Pr) (hi:rs[j]? =some (AE new b T ps)) (h:OW ps qs) (k:Fin n E (Hp M0 w0 S (rs.set j (AE new b T qs))) Q e):Fin n E (Hp M0 w0 S rs) Q e:=
 Fin.conv (fun _ _ hs=>hs.IC j hi h) k
end
section
variable {P:Program} {L:Lg P} {n:Fm} {fz:Nat} {E:Env} {M0:Av} {w0:World} {S:Nat→Prop} {rs:List As}
abbrev RK (m b:Nat):Value:= .slice (some ⟨b,0,none⟩) m m
theorem TO.QN {ops:Array Oper} {o:Oper} {r:List Oper} {Q:Exit→Act→World→Prop} {d m gy:Nat} {t e:TypeId} {x y:Operand} {z:Value} (hg:o.guard=none) (hd:o.dst=some d) (hn:d<n) (ho:o.op= .makeSlice t x y) (ht:P.underlying t=some (.slice e))
  (hs:Ax P e=some 1) (hby:Bi P e=some gy) (hz:BJ P e=some [z]) (h1:z.oneCell'=true) (hx:VL E x (int ((m:Nat):Int))) (hy:VL E y (int ((m:Nat):Int))) (hm:m≤maxLen) (hb:gy*m≤281474976710656)
  (k:∀b,TO P n ops r ((d,is (RK m b))::E) (Hp M0 w0 S (AE true b e ((List.replicate m z).map is)::rs)) Q):TO P n ops (o::r) E (Hp M0 w0 S rs) Q:=
 TO.Xh hg fun K M w a hsz hdf he hI hK=>by
  have hx1:a.eval x= .int .i64 m:=hx.ev (o:=o) (CG he) (by simp [ho,Op.operands])
  have hy1:a.eval y= .int .i64 m:=hy.ev (o:=o) (CG he) (by simp [ho,Op.operands])
  have hi:∃i,P.info? e=some i∧i.size=1∧i.bytes=gy∧∃z',i.zero=some z'∧z'.cells= #[z]:=by
   unfold Ax at hs;unfold Bi at hby;unfold BJ at hz
   cases hi:P.info? e with
   |none=>rw [hi] at hs;cases hs
   |some i=>
    rw [hi] at hs hby hz
    simp at hs hby hz
    obtain ⟨z',h2,h3⟩:=hz
    exact ⟨i,rfl,hs,hby,z',h2,by rw [←Array.toList_inj,h3]⟩
  obtain ⟨i,hi,hi1,hi2,z',FM,HC⟩:=hi
  have hmk:madeCells z'.cells m=(List.replicate m z).toArray:=by
   rw [HC]
   apply Array.ext
   · simp [madeCells]
   ·
    intro j h1 h2
    simp [madeCells,Nat.mod_one]
  have hrun:=run_make (P:=P) w t e i z' ht hi FM .i64 .i64 (m:Int) (m:Int) (by omega) (Int.le_refl _) (by rw [hi2];have h0:((gy*m:Nat):Int)≤281474976710656:=Int.ofNat_le.2 hb;rw [←Int.natCast_mul];exact h0) (by unfold maxLen at hm;omega)
  rw [hi1] at hrun
  simp only [Int.toNat_natCast,Nat.mul_one] at hrun
  rw [hmk] at hrun
  refine TO.val (v:=RK m w.heap.size) (w':=w.alloc (.cells (List.replicate m z).toArray e)) ?_ ?_
  · simp [execOp,ho,hx1,hy1,hrun]
  ·
   obtain ⟨h2,h3⟩:=A8.add (T:=e) hI (J3 M w (List.replicate m z)) (fun c hc=>by rw [List.eq_of_mem_replicate hc];exact h1)
   refine hK _ _ _ _ (k w.heap.size) ⟨_,by rw [B9];exact hsz,by rw [put_defers];exact hdf,?_,h2⟩
   intro s p hp
   simp only [List.lookup] at hp
   by_cases hs:s=d
   · subst hs;simp at hp;subst hp;rw [hd,Bz (by rw [hsz];exact hn)];rfl
   ·
    rw [show (s==d)=false by simpa using hs] at hp
    rw [hd,Bg hs]
    exact p.st _ _ _ _ _ h3 (he s p hp)
theorem BV {I:CT} {o:Oper} {t e:TypeId} {x y:Operand} {k:IntKind} {i:Int} {len cap sz b off:Nat} (ho:o.op= .indexAddr t x y) (ht:P.underlying t=some (.slice e)) (hz:Ax P e=some sz) (hx:VL E x (is (.slice (some ⟨b,off,none⟩) len cap))) (hy:VL E y (is (.int k i)))
  (h0:0≤i) (hl:i<len):Ac P I o E (ptr b (off+i.toNat*sz)):=
 Ac.same fun M w a he _=>by
  have h1:a.eval x=_:=hx.ev he (by simp [ho,Op.operands])
  have h5:a.eval y= .int k i:=hy.ev he (by simp [ho,Op.operands])
  refine ⟨_,?_,rfl⟩
  simp [execOp,ho,h1,h5,Instr.indexAt,asIntOf,run_underlying ht,Cl hz,h0,hl,Ft]
def C3 (e:TypeId):List Nat→List (List Pr)→List As
 |b::bs,r::EX=>AE true b e r::C3 e bs EX
 |_,_=>[]
theorem PC {e:TypeId} {b:Nat} {r:List Pr}:∀{bs:List Nat} {EX:List (List Pr)},bs.length=EX.length→(C3 e (bs++[b]) (EX++[r])).Perm (AE true b e r::C3 e bs EX)
 |[],[],_=>List.Perm.refl _
 |c::bs,q::EX,h=>((PC (by simpa using h)).cons _).trans (List.Perm.swap _ _ _)
 |[],_::_,h=>by simp at h
 |_::_,[],h=>by simp at h
theorem QO {e:TypeId} {b:Nat} (r':List Pr):∀{i:Nat} {bs:List Nat} {EX:List (List Pr)},bs.length=EX.length→bs[i]? =some b→(C3 e bs (EX.set i r')).Perm (AE true b e r'::C3 e (bs.eraseIdx i) (EX.eraseIdx i))
 |0,c::bs,q::EX,_,hb=>by simp at hb;subst hb;exact List.Perm.refl _
 |i+1,c::bs,q::EX,h,hb=>((QO r' (by simpa using h) (by simpa using hb)).cons _).trans (List.Perm.swap _ _ _)
 |_,[],[],_,hb=>by simp at hb
 |_,[],_::_,h,_=>by simp at h
 |_,_::_,[],h,_=>by simp at h
theorem YP {e:TypeId} {b i:Nat} {r:List Pr} {bs:List Nat} {EX:List (List Pr)} (h:bs.length=EX.length) (hb:bs[i]? =some b) (hr:EX[i]? =some r):(C3 e bs EX).Perm (AE true b e r::C3 e (bs.eraseIdx i) (EX.eraseIdx i)):=by
 have:=QO (e:=e) r h hb
 rwa [show EX.set i r=EX by
  have hl:i<EX.length:=by rcases Nat.lt_or_ge i EX.length with h|h;exact h;rw [List.getElem?_eq_none h] at hr;cases hr
  rw [List.getElem?_eq_getElem hl] at hr;simp at hr;rw [←hr,List.set_getElem_self]] at this
theorem Tr.perm {Q:Exit→Act→World→Prop} {c:Code} {rs':List As} (hp:rs.Perm rs') (k:Tr L n E (Hp M0 w0 S rs') c Q):Tr L n E (Hp M0 w0 S rs) c Q:=
 Tr.conv (fun _ _ ⟨M,h1,h2,h3,h4⟩=>⟨M,h1,h2,h3,A8.perm hp h4⟩) k
theorem Fin.perm {Q:Exit→Act→World→Prop} {ex:Exit} {rs':List As} (hp:rs.Perm rs') (k:Fin n E (Hp M0 w0 S rs') Q ex):Fin n E (Hp M0 w0 S rs) Q ex:=
 Fin.conv (fun _ _ ⟨M,h1,h2,h3,h4⟩=>⟨M,h1,h2,h3,A8.perm hp h4⟩) k
theorem A8.U2 {b:Nat} {T:TypeId} {ps:List Pr} {M:Av} {w:World} (h4:A8 M0 w0 S (AE true b T ps::rs) M w):∃M',A8 M0 w0 S rs M' w∧Ext M w M' w∧Row M' w ⟨b,0,none⟩ 0 ps:=by
 obtain ⟨⟨hm,cs,hh,hc,hone⟩,ga⟩:=h4.hold _ (List.mem_cons_self ..)
 obtain ⟨hlt,hnew⟩:=ga b rfl
 have hnew:w0.heap.size≤b:=by simpa [AE] using hnew
 have he:Ext M w (fun b' o=>M b' o∧b'≠b) w:=Ext.less fun _ _ h=>h.1
 obtain ⟨vC,vD⟩:=List.pairwise_cons.1 h4.nd
 refine ⟨fun b' o=>M b' o∧b'≠b,⟨h4.m0,fun b' o' hm'=>⟨h4.m b' o' hm',fun e=> ?_⟩,h4.os,h4.tape,h4.output,h4.size,h4.block,fun b' o' hm'=>h4.bd b' o' hm'.1,fun r hr=> ?_,vD⟩,he,fun j p hp=> ?_⟩
 ·
  subst e
  have:=h4.m0 _ _ hm'
  omega
 ·
  obtain ⟨h5,h6⟩:=h4.hold r (List.mem_cons_of_mem _ hr)
  exact ⟨r.st _ _ _ _ he (fun b' hb'=>⟨rfl,fun o' hmo=>⟨hmo,fun e=>vC r hr b rfl (by rw [←e];exact hb')⟩⟩) h5,h6⟩
 ·
  obtain ⟨u,hu,jJ⟩:=hc.at_ j p hp
  refine ⟨u,?_,fun hx=>hx.2 rfl,hone u (List.mem_of_getElem? hu),p.st _ _ _ _ _ he jJ⟩
  rw [show Addr.add ⟨b,0,none⟩ (0+j)=⟨b,j,none⟩ by unfold Addr.add;split<;>simp_all]
  simp [World.cell?,hh,hu]
theorem A8.Ez {e:TypeId} {w:World}:∀{bs:List Nat} {EX:List (List Pr)} {M:Av},bs.length=EX.length→A8 M0 w0 S (C3 e bs EX++rs) M w→∃M',A8 M0 w0 S rs M' w∧Ext M w M' w∧∀(i:Nat) b r,bs[i]? =some b→EX[i]? =some r→Row M' w ⟨b,0,none⟩ 0 r
 |[],[],M,_,h=>⟨M,h,Ext.refl _ _,fun i b r hb=>by simp at hb⟩
 |c::bs,q::EX,M,hl,h=>by
  obtain ⟨M1,h1,h2,h3⟩:=A8.U2 (rs:=C3 e bs EX++rs) h
  obtain ⟨M2,h4,h5,h6⟩:=A8.Ez (by simpa using hl) h1
  refine ⟨M2,h4,h2.trans h5,fun i b r hb hr=> ?_⟩
  cases i with
  |zero=>simp at hb hr;subst hb;subst hr;exact h3.st h5
  |succ i=>exact h6 i b r (by simpa using hb) (by simpa using hr)
 |[],_::_,_,h,_=>by simp at h
 |_::_,[],_,h,_=>by simp at h
theorem St.Ez {e:TypeId} {bs:List Nat} {EX:List (List Pr)} {m s:Nat} {q:Pr} (hl:bs.length=EX.length) (hm:m≤maxLen) (hr:∀r∈EX,r.length=m) (hs:E.lookup s=some q) (hq:Pr.le q (slice 1 (bs.map fun b=>[is (RK m b)])))
  {a:Act} {w:World} (h:St n E (Hp M0 w0 S (C3 e bs EX++rs)) a w):St n ((s,slice 1 (EX.map fun r=>[slice 1 (r.map fun p=>[p])]))::E) (Hp M0 w0 S rs) a w:=by
 obtain ⟨M,h1,h2,h3,h4⟩:=h
 obtain ⟨M',h5,h6,h7⟩:=A8.Ez hl h4
 refine ⟨M',h1,h2,?_,h5⟩
 intro t p hp
 simp only [List.lookup] at hp
 by_cases ht:t=s
 ·
  subst ht
  simp at hp
  subst hp
  obtain ⟨A,cap,h8,h9,h10,h11,h12⟩:=(slice 1 (bs.map fun b=>[is (RK m b)])).st _ _ _ _ _ h6 (hq _ _ _ (h3 t _ hs))
  refine ⟨A,cap,by rw [h8];simp [hl],by simpa [hl] using h9,h10,h11,fun i row hrow=> ?_⟩
  rw [List.getElem?_map] at hrow
  cases htb:EX[i]? with
  |none=>rw [htb] at hrow;cases hrow
  |some r=>
   rw [htb] at hrow
   simp at hrow
   subst hrow
   have FF:i<bs.length:=by
    rcases Nat.lt_or_ge i EX.length with h|h
    · omega
    · rw [List.getElem?_eq_none h] at htb;cases htb
   obtain ⟨_,ad,MG,Ku⟩:=h12 i [is (RK m bs[i])] (by rw [List.getElem?_map,List.getElem?_eq_getElem FF];rfl)
   refine ⟨rfl,ad,MG,fun j p hp=> ?_⟩
   have hj:j=0:=by
    rcases Nat.eq_zero_or_pos j with h|h
    · exact h
    · rw [List.getElem?_eq_none (by simp;omega)] at hp;cases hp
   subst hj
   simp at hp
   subst hp
   obtain ⟨u,Rf,h16,MH,OX⟩:=Ku 0 _ rfl
   refine ⟨u,Rf,h16,MH,?_⟩
   have hu:u=RK m bs[i]:=OX
   have hrl:=hr r (List.mem_of_getElem? htb)
   refine ⟨some ⟨bs[i],0,none⟩,m,by rw [hu];simp [hrl],by simp [hrl],hm,by simp,fun x row hx=> ?_⟩
   rw [List.getElem?_map] at hx
   cases hrx:r[x]? with
   |none=>rw [hrx] at hx;cases hx
   |some p=>
    rw [hrx] at hx
    simp at hx
    subst hx
    refine ⟨rfl,⟨bs[i],0,none⟩,rfl,fun y p' hy=> ?_⟩
    have hy0:y=0:=by
     rcases Nat.eq_zero_or_pos y with h|h
     · exact h
     · rw [List.getElem?_eq_none (by simp;omega)] at hy;cases hy
    subst hy0
    simp at hy
    subst hy
    have:=h7 i _ r (List.getElem?_eq_getElem FF) htb x p hrx
    simpa using this
 ·
  rw [show (t==s)=false by simpa using ht] at hp
  exact p.st _ _ _ _ _ h6 (h3 t p hp)
theorem Tr.Ez {Q:Exit→Act→World→Prop} {c:Code} {e:TypeId} {bs:List Nat} {EX:List (List Pr)} {m:Nat} (s:Nat) {q:Pr} (hl:bs.length=EX.length) (hm:m≤maxLen) (hr:∀r∈EX,r.length=m) (hs:E.lookup s=some q) (hq:Pr.le q (slice 1 (bs.map fun b=>[is (RK m b)])))
  (k:Tr L n ((s,slice 1 (EX.map fun r=>[slice 1 (r.map fun p=>[p])]))::E) (Hp M0 w0 S rs) c Q):Tr L n E (Hp M0 w0 S (C3 e bs EX++rs)) c Q:=
 Tr.conv (fun _ _ h=>h.Ez hl hm hr hs hq) k
theorem Tr.Rh {Q:Exit→Act→World→Prop} {c:Code} {e:TypeId} {bs:List Nat} {EX:List (List Pr)} {m:Nat} (s:Nat) {q:Pr} (hl:bs.length=EX.length) (hm:m≤maxLen) (hr:∀r∈EX,r.length=m) (hs:E.lookup s=some q) (hq:Pr.le q (slice 1 (bs.map fun b=>[is (RK m b)])))
  (k:Tr L n ((s,slice 1 (EX.map fun r=>[slice 1 (r.map fun p=>[p])]))::E) (Hp M0 w0 S []) c Q):Tr L n E (Hp M0 w0 S (C3 e bs EX)) c Q:=
 Tr.conv (fun _ _ h=>St.Ez (e:=e) (rs:=[]) hl hm hr hs hq (by rw [List.append_nil];exact h)) k
end
end Cp
namespace Go.Proofs.YtmpglcehonnpkaaGreat
open Go Cp
theorem mixed:Tryz.prog.follows .mixedOrders=true:=by kernel_rfl
theorem z1:BJ Tryz.prog 1=some [.nilFunc]:=by kernel_rfl
theorem z2:BJ Tryz.prog 2=some [.int .i64 0]:=by kernel_rfl
theorem Bh:Ax Tryz.prog 3=some 1:=by kernel_rfl
theorem Bo:EA Tryz.prog 3=true:=by kernel_rfl
theorem Iu:Bi Tryz.prog 3=some 8:=by kernel_rfl
theorem zo3:([.int .i64 0]:List Value).all (·.oneCell')=true:=by kernel_rfl
theorem z3:BJ Tryz.prog 3=some [.int .i64 0]:=by kernel_rfl
theorem S3:Ax Tryz.prog 4=some 1:=by kernel_rfl
theorem YQ:EA Tryz.prog 4=true:=by kernel_rfl
theorem by4:Bi Tryz.prog 4=some 1:=by kernel_rfl
theorem z4:BJ Tryz.prog 4=some [.bool false]:=by kernel_rfl
theorem K6:Ax Tryz.prog 5=some 1:=by kernel_rfl
theorem oq:EA Tryz.prog 5=true:=by kernel_rfl
theorem U3:Bi Tryz.prog 5=some 1:=by kernel_rfl
theorem zo5:([.int .u8 0]:List Value).all (·.oneCell')=true:=by kernel_rfl
theorem z5:BJ Tryz.prog 5=some [.int .u8 0]:=by kernel_rfl
theorem z6:BJ Tryz.prog 6=some [.int .u8 0]:=by kernel_rfl
theorem MI:Ax Tryz.prog 9=some 1:=by kernel_rfl
theorem MJ:EA Tryz.prog 9=true:=by kernel_rfl
theorem by9:Bi Tryz.prog 9=some 16:=by kernel_rfl
theorem zo9:([.string (ByteArray.mk #[])]:List Value).all (·.oneCell')=true:=by kernel_rfl
theorem z9:BJ Tryz.prog 9=some [.string (ByteArray.mk #[])]:=by kernel_rfl
theorem z12:BJ Tryz.prog 12=some [.int .u64 0]:=by kernel_rfl
theorem z13:BJ Tryz.prog 13=some [.string (ByteArray.mk #[]),.int .u64 0]:=by kernel_rfl
theorem z18:BJ Tryz.prog 18=some [.pointer none]:=by kernel_rfl
theorem z19:BJ Tryz.prog 19=some [.pointer none]:=by kernel_rfl
theorem z20:BJ Tryz.prog 20=some [.nilIface]:=by kernel_rfl
theorem K7:Ax Tryz.prog 22=some 1:=by kernel_rfl
theorem ID:EA Tryz.prog 22=true:=by kernel_rfl
theorem vE:Bi Tryz.prog 22=some 24:=by kernel_rfl
theorem z22:BJ Tryz.prog 22=some [.slice none 0 0]:=by kernel_rfl
theorem z24:BJ Tryz.prog 24=some [.nilFunc]:=by kernel_rfl
theorem jY:Ax Tryz.prog 25=some 1:=by kernel_rfl
theorem PD:EA Tryz.prog 25=true:=by kernel_rfl
theorem ot:Ax Tryz.prog 26=some 1:=by kernel_rfl
theorem U4:EA Tryz.prog 26=true:=by kernel_rfl
theorem jZ:Ax Tryz.prog 27=some 1:=by kernel_rfl
theorem YR:EA Tryz.prog 27=true:=by kernel_rfl
theorem Ct:Ax Tryz.prog 29=some 3:=by kernel_rfl
theorem Cu:Ev Tryz.prog 29=true:=by kernel_rfl
theorem ow:∀ps,Tryz.prog.built 29 ps=Instr.fill (fun i=>(#[(0,1),(1,1),(2,1)]:Array (Nat×Nat))[i]?) ((List.replicate 3 (.slice none 0 0)):List Value).toArray ps:=by intro ps;kernel_rfl
theorem G1:((List.replicate 3 (.slice none 0 0)):List Value).all (·.oneCell')=true:=by kernel_rfl
theorem z29:BJ Tryz.prog 29=some (List.replicate 3 (.slice none 0 0)):=by kernel_rfl
theorem HQ:AY Tryz.prog 29 0=some 0:=by kernel_rfl
theorem K8:AY Tryz.prog 29 1=some 1:=by kernel_rfl
theorem K9:AY Tryz.prog 29 2=some 2:=by kernel_rfl
theorem vF:Ax Tryz.prog 30=some 1:=by kernel_rfl
theorem gz:EA Tryz.prog 30=true:=by kernel_rfl
theorem ox:EA Tryz.prog 31=true:=by kernel_rfl
theorem z31:BJ Tryz.prog 31=some [.slice none 0 0]:=by kernel_rfl
theorem B2:Ax Tryz.prog 33=some 3:=by kernel_rfl
theorem CV:Ev Tryz.prog 33=true:=by kernel_rfl
theorem K_:∀ps,Tryz.prog.built 33 ps=Instr.fill (fun i=>(#[(0,1),(1,1),(2,1)]:Array (Nat×Nat))[i]?) ((List.replicate 3 (.slice none 0 0)):List Value).toArray ps:=by intro ps;kernel_rfl
theorem Ej:((List.replicate 3 (.slice none 0 0)):List Value).all (·.oneCell')=true:=by kernel_rfl
theorem z33:BJ Tryz.prog 33=some (List.replicate 3 (.slice none 0 0)):=by kernel_rfl
theorem TP:AY Tryz.prog 33 0=some 0:=by kernel_rfl
theorem jc:AY Tryz.prog 33 1=some 1:=by kernel_rfl
theorem IE:AY Tryz.prog 33 2=some 2:=by kernel_rfl
theorem z37:BJ Tryz.prog 37=some [.nilFunc]:=by kernel_rfl
theorem vG:Ax Tryz.prog 42=some 1:=by kernel_rfl
theorem oy:EA Tryz.prog 42=true:=by kernel_rfl
theorem CA:Ax Tryz.prog 44=some 1:=by kernel_rfl
theorem Cj:Ev Tryz.prog 44=true:=by kernel_rfl
theorem MK:∀ps,Tryz.prog.built 44 ps=Instr.fill (fun i=>(#[(0,1)]:Array (Nat×Nat))[i]?) ([.slice none 0 0]:List Value).toArray ps:=by intro ps;kernel_rfl
theorem Fa:([.slice none 0 0]:List Value).all (·.oneCell')=true:=by kernel_rfl
theorem Xj:BJ Tryz.prog 44=some [.slice none 0 0]:=by kernel_rfl
theorem YS:AY Tryz.prog 44 0=some 0:=by kernel_rfl
theorem jd:Ax Tryz.prog 45=some 1:=by kernel_rfl
theorem oz:EA Tryz.prog 45=true:=by kernel_rfl
theorem z45:BJ Tryz.prog 45=some [.int .i64 0]:=by kernel_rfl
theorem o9:EA Tryz.prog 48=true:=by kernel_rfl
theorem Ri:Ax Tryz.prog 50=some 3:=by kernel_rfl
theorem Ls:Ev Tryz.prog 50=true:=by kernel_rfl
theorem vH:∀ps,Tryz.prog.built 50 ps=Instr.fill (fun i=>(#[(0,1),(1,1),(2,1)]:Array (Nat×Nat))[i]?) ((List.replicate 3 (.slice none 0 0)):List Value).toArray ps:=by intro ps;kernel_rfl
theorem o_:((List.replicate 3 (.slice none 0 0)):List Value).all (·.oneCell')=true:=by kernel_rfl
theorem z50:BJ Tryz.prog 50=some (List.replicate 3 (.slice none 0 0)):=by kernel_rfl
theorem je:AY Tryz.prog 50 0=some 0:=by kernel_rfl
theorem jf:AY Tryz.prog 50 1=some 1:=by kernel_rfl
theorem jg:AY Tryz.prog 50 2=some 2:=by kernel_rfl
theorem z51:BJ Tryz.prog 51=some [.nilFunc]:=by kernel_rfl
theorem YT:EA Tryz.prog 52=true:=by kernel_rfl
theorem g_:EA Tryz.prog 53=true:=by kernel_rfl
theorem Xk:BJ Tryz.prog 54=some (List.replicate 2 (.slice none 0 0)):=by kernel_rfl
theorem WQ:Ax Tryz.prog 55=some 2:=by kernel_rfl
theorem PF:Ev Tryz.prog 55=true:=by kernel_rfl
theorem vI:∀ps,Tryz.prog.built 55 ps=Instr.fill (fun i=>(#[(0,1),(1,1)]:Array (Nat×Nat))[i]?) ((List.replicate 2 (.slice none 0 0)):List Value).toArray ps:=by intro ps;kernel_rfl
theorem vJ:((List.replicate 2 (.slice none 0 0)):List Value).all (·.oneCell')=true:=by kernel_rfl
theorem TQ:AY Tryz.prog 55 0=some 0:=by kernel_rfl
theorem YU:AY Tryz.prog 55 1=some 1:=by kernel_rfl
theorem YV:Ax Tryz.prog 57=some 2:=by kernel_rfl
theorem Rj:Ev Tryz.prog 57=true:=by kernel_rfl
theorem vK:∀ps,Tryz.prog.built 57 ps=Instr.fill (fun i=>(#[(0,1),(1,1)]:Array (Nat×Nat))[i]?) ([.slice none 0 0,.int .i64 0]:List Value).toArray ps:=by intro ps;kernel_rfl
theorem vL:([.slice none 0 0,.int .i64 0]:List Value).all (·.oneCell')=true:=by kernel_rfl
theorem vM:∀ps,Tryz.prog.built 61 ps=Instr.fill (fun i=>(#[(0,1),(1,1)]:Array (Nat×Nat))[i]?) ([.slice none 0 0,.int .i64 0]:List Value).toArray ps:=by intro ps;kernel_rfl
theorem vN:([.slice none 0 0,.int .i64 0]:List Value).all (·.oneCell')=true:=by kernel_rfl
theorem jh:AY Tryz.prog 61 0=some 0:=by kernel_rfl
theorem ji:AY Tryz.prog 61 1=some 1:=by kernel_rfl
theorem vO:Ax Tryz.prog 64=some 1:=by kernel_rfl
theorem pE:EA Tryz.prog 64=true:=by kernel_rfl
theorem YW:Ax Tryz.prog 68=some 1:=by kernel_rfl
theorem hO:EA Tryz.prog 68=true:=by kernel_rfl
theorem B5:Ax Tryz.prog 70=some 9:=by kernel_rfl
theorem CW:Ev Tryz.prog 70=true:=by kernel_rfl
theorem jj:Bi Tryz.prog 70=some 144:=by kernel_rfl
theorem ck:∀ps,Tryz.prog.built 70 ps=Instr.fill (fun i=>(#[(0,1),(1,1),(2,1),(3,1),(4,1),(5,1),(6,1),(7,1),(8,1)]:Array (Nat×Nat))[i]?) ([.string (ByteArray.mk #[]),.int .i64 0,.int .i64 0,.slice none 0 0,.bool false,.slice none 0 0,.slice none 0 0,.slice none 0 0,.bool false]:List Value).toArray ps:=by intro ps;kernel_rfl
theorem HR:([.string (ByteArray.mk #[]),.int .i64 0,.int .i64 0,.slice none 0 0,.bool false,.slice none 0 0,.slice none 0 0,.slice none 0 0,.bool false]:List Value).all (·.oneCell')=true:=by kernel_rfl
theorem z70:BJ Tryz.prog 70=some [.string (ByteArray.mk #[]),.int .i64 0,.int .i64 0,.slice none 0 0,.bool false,.slice none 0 0,.slice none 0 0,.slice none 0 0,.bool false]:=by kernel_rfl
theorem YX:AY Tryz.prog 70 0=some 0:=by kernel_rfl
theorem jk:AY Tryz.prog 70 1=some 1:=by kernel_rfl
theorem TR:AY Tryz.prog 70 2=some 2:=by kernel_rfl
theorem LA:AY Tryz.prog 70 3=some 3:=by kernel_rfl
theorem jl:AY Tryz.prog 70 4=some 4:=by kernel_rfl
theorem NK:AY Tryz.prog 70 5=some 5:=by kernel_rfl
theorem YY:AY Tryz.prog 70 6=some 6:=by kernel_rfl
theorem YZ:AY Tryz.prog 70 7=some 7:=by kernel_rfl
theorem jm:AY Tryz.prog 70 8=some 8:=by kernel_rfl
theorem JA:Ax Tryz.prog 72=some 2:=by kernel_rfl
theorem Hu:Ev Tryz.prog 72=true:=by kernel_rfl
theorem jo:∀ps,Tryz.prog.built 72 ps=Instr.fill (fun i=>(#[(0,1),(1,1)]:Array (Nat×Nat))[i]?) ((List.replicate 2 (.int .i64 0)):List Value).toArray ps:=by intro ps;kernel_rfl
theorem De:((List.replicate 2 (.int .i64 0)):List Value).all (·.oneCell')=true:=by kernel_rfl
theorem z72:BJ Tryz.prog 72=some (List.replicate 2 (.int .i64 0)):=by kernel_rfl
theorem jq:AY Tryz.prog 72 0=some 0:=by kernel_rfl
theorem jr:AY Tryz.prog 72 1=some 1:=by kernel_rfl
theorem vP:Ax Tryz.prog 73=some 1:=by kernel_rfl
theorem pF:EA Tryz.prog 73=true:=by kernel_rfl
theorem E0:Ax Tryz.prog 75=some 4:=by kernel_rfl
theorem Rk:Ev Tryz.prog 75=true:=by kernel_rfl
theorem WR:Bi Tryz.prog 75=some 48:=by kernel_rfl
theorem pG:∀ps,Tryz.prog.built 75 ps=Instr.fill (fun i=>(#[(0,2),(2,1),(3,1)]:Array (Nat×Nat))[i]?) ([.int .i64 0,.int .i64 0,.int .i64 0,.slice none 0 0]:List Value).toArray ps:=by intro ps;kernel_rfl
theorem TS:([.int .i64 0,.int .i64 0,.int .i64 0,.slice none 0 0]:List Value).all (·.oneCell')=true:=by kernel_rfl
theorem z75:BJ Tryz.prog 75=some [.int .i64 0,.int .i64 0,.int .i64 0,.slice none 0 0]:=by kernel_rfl
theorem jt:AY Tryz.prog 75 0=some 0:=by kernel_rfl
theorem ju:AY Tryz.prog 75 1=some 2:=by kernel_rfl
theorem jv:AY Tryz.prog 75 2=some 3:=by kernel_rfl
theorem F_:Ax Tryz.prog 79=some 2:=by kernel_rfl
theorem Rl:Ev Tryz.prog 79=true:=by kernel_rfl
theorem pH:Bi Tryz.prog 79=some 16:=by kernel_rfl
theorem pI:∀ps,Tryz.prog.built 79 ps=Instr.fill (fun i=>(#[(0,1),(1,1)]:Array (Nat×Nat))[i]?) ((List.replicate 2 (.int .i64 0)):List Value).toArray ps:=by intro ps;kernel_rfl
theorem Ya:((List.replicate 2 (.int .i64 0)):List Value).all (·.oneCell')=true:=by kernel_rfl
theorem jw:BJ Tryz.prog 79=some (List.replicate 2 (.int .i64 0)):=by kernel_rfl
theorem jx:AY Tryz.prog 79 0=some 0:=by kernel_rfl
theorem jy:AY Tryz.prog 79 1=some 1:=by kernel_rfl
theorem pJ:Ax Tryz.prog 80=some 1:=by kernel_rfl
theorem pK:EA Tryz.prog 80=true:=by kernel_rfl
theorem KG:Ax Tryz.prog 82=some 5:=by kernel_rfl
theorem U5:Ev Tryz.prog 82=true:=by kernel_rfl
theorem jz:Bi Tryz.prog 82=some 64:=by kernel_rfl
theorem vQ:∀ps,Tryz.prog.built 82 ps=Instr.fill (fun i=>(#[(0,1),(1,1),(2,1),(3,1),(4,1)]:Array (Nat×Nat))[i]?) ([.string (ByteArray.mk #[]),.int .i64 0,.int .i64 0,.slice none 0 0,.int .i64 0]:List Value).toArray ps:=by intro ps;kernel_rfl
theorem Yb:([.string (ByteArray.mk #[]),.int .i64 0,.int .i64 0,.slice none 0 0,.int .i64 0]:List Value).all (·.oneCell')=true:=by kernel_rfl
theorem cq:BJ Tryz.prog 82=some [.string (ByteArray.mk #[]),.int .i64 0,.int .i64 0,.slice none 0 0,.int .i64 0]:=by kernel_rfl
theorem j0:AY Tryz.prog 82 0=some 0:=by kernel_rfl
theorem j4:AY Tryz.prog 82 1=some 1:=by kernel_rfl
theorem j5:AY Tryz.prog 82 2=some 2:=by kernel_rfl
theorem TT:AY Tryz.prog 82 3=some 3:=by kernel_rfl
theorem j6:AY Tryz.prog 82 4=some 4:=by kernel_rfl
theorem DO:Ax Tryz.prog 87=some 8:=by kernel_rfl
theorem Hv:Ev Tryz.prog 87=true:=by kernel_rfl
theorem TW:Bi Tryz.prog 87=some 80:=by kernel_rfl
theorem WS:∀ps,Tryz.prog.built 87 ps=Instr.fill (fun i=>(#[(0,1),(1,1),(2,1),(3,1),(4,4)]:Array (Nat×Nat))[i]?) ([.int .i64 0,.int .i64 0,.int .i64 0,.int .i64 0,.int .i64 0,.int .i64 0,.int .i64 0,.slice none 0 0]:List Value).toArray ps:=by intro ps;kernel_rfl
theorem KH:([.int .i64 0,.int .i64 0,.int .i64 0,.int .i64 0,.int .i64 0,.int .i64 0,.int .i64 0,.slice none 0 0]:List Value).all (·.oneCell')=true:=by kernel_rfl
theorem z87:BJ Tryz.prog 87=some [.int .i64 0,.int .i64 0,.int .i64 0,.int .i64 0,.int .i64 0,.int .i64 0,.int .i64 0,.slice none 0 0]:=by kernel_rfl
theorem j7:AY Tryz.prog 87 0=some 0:=by kernel_rfl
theorem j8:AY Tryz.prog 87 1=some 1:=by kernel_rfl
theorem j9:AY Tryz.prog 87 2=some 2:=by kernel_rfl
theorem j_:AY Tryz.prog 87 3=some 3:=by kernel_rfl
theorem kA:AY Tryz.prog 87 4=some 4:=by kernel_rfl
theorem Dk:Ax Tryz.prog 101=some 1:=by kernel_rfl
theorem QS:EA Tryz.prog 101=true:=by kernel_rfl
theorem Lt:Bi Tryz.prog 101=some 24:=by kernel_rfl
theorem LB:BJ Tryz.prog 101=some [.slice none 0 0]:=by kernel_rfl
theorem pL:∀ps,Tryz.prog.built 104 ps=Instr.fill (fun i=>(#[(0,1),(1,1)]:Array (Nat×Nat))[i]?) ((List.replicate 2 (.int .i64 0)):List Value).toArray ps:=by intro ps;kernel_rfl
theorem pM:((List.replicate 2 (.int .i64 0)):List Value).all (·.oneCell')=true:=by kernel_rfl
theorem cr:AY Tryz.prog 104 0=some 0:=by kernel_rfl
theorem cv:AY Tryz.prog 104 1=some 1:=by kernel_rfl
theorem G2:Ax Tryz.prog 106=some 3:=by kernel_rfl
theorem NL:Ev Tryz.prog 106=true:=by kernel_rfl
theorem pN:∀ps,Tryz.prog.built 106 ps=Instr.fill (fun i=>(#[(0,2),(2,1)]:Array (Nat×Nat))[i]?) ([.int .i64 0,.int .i64 0,.slice none 0 0]:List Value).toArray ps:=by intro ps;kernel_rfl
theorem NM:([.int .i64 0,.int .i64 0,.slice none 0 0]:List Value).all (·.oneCell')=true:=by kernel_rfl
theorem WT:BJ Tryz.prog 106=some [.int .i64 0,.int .i64 0,.slice none 0 0]:=by kernel_rfl
theorem cw:AY Tryz.prog 106 0=some 0:=by kernel_rfl
theorem cx:AY Tryz.prog 106 1=some 2:=by kernel_rfl
theorem Bt:Ax Tryz.prog 109=some 2:=by kernel_rfl
theorem D8:Ev Tryz.prog 109=true:=by kernel_rfl
theorem KI:Bi Tryz.prog 109=some 16:=by kernel_rfl
theorem Yc:∀ps,Tryz.prog.built 109 ps=Instr.fill (fun i=>(#[(0,1),(1,1)]:Array (Nat×Nat))[i]?) ((List.replicate 2 (.int .i64 0)):List Value).toArray ps:=by intro ps;kernel_rfl
theorem JF:((List.replicate 2 (.int .i64 0)):List Value).all (·.oneCell')=true:=by kernel_rfl
theorem z109:BJ Tryz.prog 109=some (List.replicate 2 (.int .i64 0)):=by kernel_rfl
theorem KJ:AY Tryz.prog 109 0=some 0:=by kernel_rfl
theorem KK:AY Tryz.prog 109 1=some 1:=by kernel_rfl
theorem Yd:Ax Tryz.prog 112=some 2:=by kernel_rfl
theorem kB:Ev Tryz.prog 112=true:=by kernel_rfl
theorem iA:∀ps,Tryz.prog.built 112 ps=Instr.fill (fun i=>(#[(0,1),(1,1)]:Array (Nat×Nat))[i]?) ((List.replicate 2 (.int .i64 0)):List Value).toArray ps:=by intro ps;kernel_rfl
theorem iB:((List.replicate 2 (.int .i64 0)):List Value).all (·.oneCell')=true:=by kernel_rfl
theorem cz:AY Tryz.prog 112 0=some 0:=by kernel_rfl
theorem c_:AY Tryz.prog 112 1=some 1:=by kernel_rfl
theorem Dl:Ax Tryz.prog 114=some 15:=by kernel_rfl
theorem Gk:Ev Tryz.prog 114=true:=by kernel_rfl
theorem pO:Bi Tryz.prog 114=some 152:=by kernel_rfl
theorem pP:∀ps,Tryz.prog.built 114 ps=Instr.fill (fun i=>(#[(0,1),(1,1),(2,1),(3,2),(5,1),(6,2),(8,1),(9,1),(10,1),(11,1),(12,1),(13,2)]:Array (Nat×Nat))[i]?) ([.int .i64 0,.string (ByteArray.mk #[]),.string (ByteArray.mk #[]),.int .i64 0,.int .i64 0,.int .i64 0,.int .i64 0,.int .i64 0,.int .i64 0,.int .i64 0,.bool false,.int .i64 0,.slice none 0 0,.int .i64 0,.int .i64 0]:List Value).toArray ps:=by intro ps;kernel_rfl
theorem NN:([.int .i64 0,.string (ByteArray.mk #[]),.string (ByteArray.mk #[]),.int .i64 0,.int .i64 0,.int .i64 0,.int .i64 0,.int .i64 0,.int .i64 0,.int .i64 0,.bool false,.int .i64 0,.slice none 0 0,.int .i64 0,.int .i64 0]:List Value).all (·.oneCell')=true:=by kernel_rfl
theorem TX:BJ Tryz.prog 114=some [.int .i64 0,.string (ByteArray.mk #[]),.string (ByteArray.mk #[]),.int .i64 0,.int .i64 0,.int .i64 0,.int .i64 0,.int .i64 0,.int .i64 0,.int .i64 0,.bool false,.int .i64 0,.slice none 0 0,.int .i64 0,.int .i64 0]:=by kernel_rfl
theorem dA:AY Tryz.prog 114 0=some 0:=by kernel_rfl
theorem dB:AY Tryz.prog 114 1=some 1:=by kernel_rfl
theorem dD:AY Tryz.prog 114 2=some 2:=by kernel_rfl
theorem dF:AY Tryz.prog 114 3=some 3:=by kernel_rfl
theorem dG:AY Tryz.prog 114 4=some 5:=by kernel_rfl
theorem dH:AY Tryz.prog 114 5=some 6:=by kernel_rfl
theorem dI:AY Tryz.prog 114 6=some 8:=by kernel_rfl
theorem dJ:AY Tryz.prog 114 7=some 9:=by kernel_rfl
theorem dK:AY Tryz.prog 114 8=some 10:=by kernel_rfl
theorem dL:AY Tryz.prog 114 9=some 11:=by kernel_rfl
theorem Ye:AY Tryz.prog 114 10=some 12:=by kernel_rfl
theorem NO:AY Tryz.prog 114 11=some 13:=by kernel_rfl
theorem IF:Ax Tryz.prog 119=some 3:=by kernel_rfl
theorem iC:Bi Tryz.prog 119=some 24:=by kernel_rfl
theorem pQ:∀ps,Tryz.prog.built 119 ps=Instr.fill (fun i=>(#[(0,2),(2,1)]:Array (Nat×Nat))[i]?) ((List.replicate 3 (.int .i64 0)):List Value).toArray ps:=by intro ps;kernel_rfl
theorem iD:((List.replicate 3 (.int .i64 0)):List Value).all (·.oneCell')=true:=by kernel_rfl
theorem z119:BJ Tryz.prog 119=some (List.replicate 3 (.int .i64 0)):=by kernel_rfl
theorem dM:AY Tryz.prog 119 0=some 0:=by kernel_rfl
theorem dN:AY Tryz.prog 119 1=some 2:=by kernel_rfl
theorem Lu:Ax Tryz.prog 134=some 1:=by kernel_rfl
theorem Yf:EA Tryz.prog 134=true:=by kernel_rfl
theorem pR:Bi Tryz.prog 134=some 24:=by kernel_rfl
theorem pS:BJ Tryz.prog 134=some [.slice none 0 0]:=by kernel_rfl
theorem pT:Ax Tryz.prog 142=some 1:=by kernel_rfl
theorem Yg:EA Tryz.prog 142=true:=by kernel_rfl
theorem Ep:Ax Tryz.prog 148=some 12:=by kernel_rfl
theorem HS:Ev Tryz.prog 148=true:=by kernel_rfl
theorem Rm:∀ps,Tryz.prog.built 148 ps=Instr.fill (fun i=>(#[(0,1),(1,1),(2,2),(4,2),(6,2),(8,2),(10,1),(11,1)]:Array (Nat×Nat))[i]?) ([.int .i64 0,.string (ByteArray.mk #[]),.int .i64 0,.int .i64 0,.int .i64 0,.int .i64 0,.int .i64 0,.int .i64 0,.int .i64 0,.int .i64 0,.int .i64 0,.int .i64 0]:List Value).toArray ps:=by intro ps;kernel_rfl
theorem G3:([.int .i64 0,.string (ByteArray.mk #[]),.int .i64 0,.int .i64 0,.int .i64 0,.int .i64 0,.int .i64 0,.int .i64 0,.int .i64 0,.int .i64 0,.int .i64 0,.int .i64 0]:List Value).all (·.oneCell')=true:=by kernel_rfl
theorem z148:BJ Tryz.prog 148=some [.int .i64 0,.string (ByteArray.mk #[]),.int .i64 0,.int .i64 0,.int .i64 0,.int .i64 0,.int .i64 0,.int .i64 0,.int .i64 0,.int .i64 0,.int .i64 0,.int .i64 0]:=by kernel_rfl
theorem dO:AY Tryz.prog 148 2=some 2:=by kernel_rfl
theorem dP:AY Tryz.prog 148 3=some 4:=by kernel_rfl
theorem dQ:AY Tryz.prog 148 4=some 6:=by kernel_rfl
theorem dR:AY Tryz.prog 148 5=some 8:=by kernel_rfl
theorem dS:AY Tryz.prog 148 6=some 10:=by kernel_rfl
theorem dU:AY Tryz.prog 148 7=some 11:=by kernel_rfl
theorem Bm:Ax Tryz.prog 165=some 2:=by kernel_rfl
theorem CU:Ev Tryz.prog 165=true:=by kernel_rfl
theorem U6:Bi Tryz.prog 165=some 16:=by kernel_rfl
theorem PG:∀ps,Tryz.prog.built 165 ps=Instr.fill (fun i=>(#[(0,1),(1,1)]:Array (Nat×Nat))[i]?) ((List.replicate 2 (.int .i64 0)):List Value).toArray ps:=by intro ps;kernel_rfl
theorem Ed:((List.replicate 2 (.int .i64 0)):List Value).all (·.oneCell')=true:=by kernel_rfl
theorem H8:BJ Tryz.prog 165=some (List.replicate 2 (.int .i64 0)):=by kernel_rfl
theorem dV:AY Tryz.prog 165 1=some 1:=by kernel_rfl
theorem Er:Ax Tryz.prog 167=some 4:=by kernel_rfl
theorem IG:Ev Tryz.prog 167=true:=by kernel_rfl
theorem pU:Bi Tryz.prog 167=some 48:=by kernel_rfl
theorem U7:∀ps,Tryz.prog.built 167 ps=Instr.fill (fun i=>(#[(0,1),(1,1),(2,2)]:Array (Nat×Nat))[i]?) ([.int .i64 0,.slice none 0 0,.int .i64 0,.int .i64 0]:List Value).toArray ps:=by intro ps;kernel_rfl
theorem NP:([.int .i64 0,.slice none 0 0,.int .i64 0,.int .i64 0]:List Value).all (·.oneCell')=true:=by kernel_rfl
theorem z167:BJ Tryz.prog 167=some [.int .i64 0,.slice none 0 0,.int .i64 0,.int .i64 0]:=by kernel_rfl
theorem U8:Ax Tryz.prog 174=some 1:=by kernel_rfl
theorem kC:EA Tryz.prog 174=true:=by kernel_rfl
theorem pV:Bi Tryz.prog 174=some 24:=by kernel_rfl
theorem pW:([.slice none 0 0]:List Value).all (·.oneCell')=true:=by kernel_rfl
theorem pX:BJ Tryz.prog 174=some [.slice none 0 0]:=by kernel_rfl
theorem pY:Ax Tryz.prog 185=some 1:=by kernel_rfl
theorem QT:EA Tryz.prog 185=true:=by kernel_rfl
theorem CF:Ax Tryz.prog 187=some 4:=by kernel_rfl
theorem Cn:Ev Tryz.prog 187=true:=by kernel_rfl
theorem iE:Bi Tryz.prog 187=some 64:=by kernel_rfl
theorem Yh:∀ps,Tryz.prog.built 187 ps=Instr.fill (fun i=>(#[(0,1),(1,1),(2,1),(3,1)]:Array (Nat×Nat))[i]?) ([.int .i64 0,.slice none 0 0,.bool false,.slice none 0 0]:List Value).toArray ps:=by intro ps;kernel_rfl
theorem JG:([.int .i64 0,.slice none 0 0,.bool false,.slice none 0 0]:List Value).all (·.oneCell')=true:=by kernel_rfl
theorem LC:BJ Tryz.prog 187=some [.int .i64 0,.slice none 0 0,.bool false,.slice none 0 0]:=by kernel_rfl
theorem dW:AY Tryz.prog 187 0=some 0:=by kernel_rfl
theorem QU:AY Tryz.prog 187 1=some 1:=by kernel_rfl
theorem dX:AY Tryz.prog 187 2=some 2:=by kernel_rfl
theorem KL:AY Tryz.prog 187 3=some 3:=by kernel_rfl
theorem iF:Ax Tryz.prog 193=some 2:=by kernel_rfl
theorem pZ:∀ps,Tryz.prog.built 193 ps=Instr.fill (fun i=>(#[(0,1),(1,1)]:Array (Nat×Nat))[i]?) ([.string (ByteArray.mk #[]),.int .i64 0]:List Value).toArray ps:=by intro ps;kernel_rfl
theorem iG:([.string (ByteArray.mk #[]),.int .i64 0]:List Value).all (·.oneCell')=true:=by kernel_rfl
theorem z193:BJ Tryz.prog 193=some [.string (ByteArray.mk #[]),.int .i64 0]:=by kernel_rfl
theorem dY:AY Tryz.prog 193 1=some 1:=by kernel_rfl
end Go.Proofs.YtmpglcehonnpkaaGreat
namespace Go.Proofs.YtmpglcehonnpkaaGreat
open Go Go.RowKit Cp Go.Proofs.Tryz
abbrev ints (l:List Int):Pr:=slice 1 (l.map fun n=>[int n])
def idx {β:Type} (p:β→Bool) (l:List β):Int:=match l.findIdx? p with|some i=>i|none=> -1
theorem Dx {β:Type} {p:β→Bool} {l:List β} {k:Nat} {x:β} (hx:l[k]? =some x) (hp:p x=true) (h:∀j y,j<k→l[j]? =some y→p y=false):(k:Int)=idx p l:=by
 have:l.findIdx? p=some k:=by
  rw [List.findIdx?_eq_some_iff_getElem]
  have hk:k<l.length:=by rcases Nat.lt_or_ge k l.length with h|h;exact h;rw [List.getElem?_eq_none h] at hx;cases hx
  rw [List.getElem?_eq_getElem hk] at hx
  simp only [Option.some.injEq] at hx
  refine ⟨hk,by rw [hx];exact hp,fun j hj=> ?_⟩
  simpa using h j _ hj (List.getElem?_eq_getElem (by omega))
 unfold idx;rw [this]
theorem G4 {β:Type} {p:β→Bool} {l:List β} (h:∀j y,j<l.length→l[j]? =some y→p y=false):(-1:Int)=idx p l:=by
 have:l.findIdx? p=none:=by
  rw [List.findIdx?_eq_none_iff]
  intro x hx
  obtain ⟨j,hj,rfl⟩:=List.mem_iff_getElem.1 hx
  exact h j _ hj (List.getElem?_eq_getElem hj)
 unfold idx;rw [this]
theorem U9 {β:Type} (p:β→Bool) (l:List β):decide (idx p l≥0)=l.any p:=by
 unfold idx
 cases h:l.findIdx? p with
 |none=>rw [List.findIdx?_eq_none_iff] at h;simp;intro x hx;simpa using h x hx
 |some i=>
  rw [List.findIdx?_eq_some_iff_getElem] at h
  obtain ⟨h1,h2,_⟩:=h
  simp
  exact ⟨_,List.getElem_mem h1,h2⟩
theorem EM {β:Type} {p:β→Bool} {l:List β} {k:Nat} {x:β} (hx:l[k]? =some x) (hp:p x=false) (h:∀j y,j<k→l[j]? =some y→p y=false):∀j y,j<k+1→l[j]? =some y→p y=false:=by
 intro j y hj hy
 by_cases hjk:j=k
 · subst hjk;rw [hx] at hy;cases hy;exact hp
 · exact h j y (by omega) hy
end Go.Proofs.YtmpglcehonnpkaaGreat
namespace Cp
open Go Go.RowKit Go.Great
section
variable {P:Program} {L:Lg P} {n:Fm} {fz:Nat} {E:Env} {M0:Av} {w0:World} {S:Nat→Prop} {rs:List As} {o:Oper}
def lens (m:Nat):Pr where
 h _ _ v:=∃a c,v= .slice a m c
 st _M _w _M' _w' _v _ h:=h
instance pg (m:Nat):One (lens m):=⟨by rintro M w v ⟨a,c,rfl⟩;exact ⟨rfl,rfl⟩⟩
def QV (e:TypeId) (sz:Nat) (rows:List (List Pr)) (v:Value):As where
 blk:=match v with| .slice (some a) _ _=>some a.block|_=>none
 new:=true
 h M w:=∃(b cap:Nat) (spare:List Value),v= .slice (some ⟨b,0,none⟩) rows.length cap∧rows.length≤cap∧cap≤maxLen∧spare.length=(cap-rows.length)*sz∧(AE true b e (rows.flatten++spare.map is)).h M w
 st M w M' w' he hk h:=by
  obtain ⟨b,cap,spare,rfl,h1,h2,h3,h4⟩:=h
  exact ⟨b,cap,spare,rfl,h1,h2,h3,(AE true b e _).st _ _ _ _ he hk h4⟩
theorem Iv {sz:Nat}:∀{rows:List (List Pr)} {i j:Nat} {row:List Pr},(∀r∈rows,r.length=sz)→rows[i]? =some row→j<sz→rows.flatten[i*sz+j]? =row[j]?
 |[],_,_,_,_,h,_=>by simp at h
 |a::l,0,j,row,hl,h,hj=>by
  simp at h;subst h
  have:=hl a (by simp)
  rw [List.flatten_cons,Nat.zero_mul,Nat.zero_add,List.getElem?_append_left (by omega)]
 |a::l,i+1,j,row,hl,h,hj=>by
  have h1:=hl a (by simp)
  rw [List.flatten_cons,Nat.succ_mul,List.getElem?_append_right (by omega),h1,show i*sz+sz+j-sz=i*sz+j by omega]
  exact Iv (fun r hr=>hl r (List.mem_cons_of_mem _ hr)) (by simpa using h) hj
theorem C4 {sz:Nat}:∀{rows:List (List Pr)},(∀r∈rows,r.length=sz)→rows.flatten.length=rows.length*sz
 |[],_=>by simp
 |a::l,h=>by
  rw [List.flatten_cons,List.length_append,C4 (fun r hr=>h r (List.mem_cons_of_mem _ hr)),h a (by simp),List.length_cons,Nat.succ_mul];omega
theorem U_ {M:Av} {w:World}:∀{ps:List Pr} {vs:List Value},vs.length=ps.length→(∀(k:Nat) p,ps[k]? =some p→∃u,vs[k]? =some u∧p.h M w u)→HL M w ps vs
 |[],[],_,_=>trivial
 |[],_::_,h,_=>by simp at h
 |_::_,[],h,_=>by simp at h
 |p::ps,v::vs,h,hk=>by
  refine ⟨?_,U_ (by simpa using h) fun k q hq=>by simpa using hk (k+1) q (by simpa using hq)⟩
  obtain ⟨u,hu,hp⟩:=hk 0 p rfl
  simp at hu;subst hu;exact hp
theorem Flat.hl {M:Av} {w:World} {sz:Nat} {rows:List (List Pr)} {news:List Value} (hsz:0<sz) (h:Flat M w sz rows news):HL M w rows.flatten news:=by
 have hl:∀r∈rows,r.length=sz:=fun r hr=>by obtain ⟨i,hi⟩:=List.mem_iff_getElem?.1 hr;exact (h.2.2 i r hi).1
 refine U_ (by rw [h.1,C4 hl]) fun k p hk=> ?_
 have S2:k<rows.length*sz:=by rw [←C4 hl];rcases Nat.lt_or_ge k rows.flatten.length with h|h;exact h;rw [List.getElem?_eq_none h] at hk;cases hk
 have hi:k/sz<rows.length:=Nat.div_lt_of_lt_mul (by rw [Nat.mul_comm];exact S2)
 have hj:k % sz<sz:=Nat.mod_lt _ hsz
 have he:k/sz*sz+k % sz=k:=by rw [Nat.mul_comm];exact Nat.div_add_mod k sz
 have hr:=List.getElem?_eq_getElem hi
 rw [←he,Iv hl hr hj] at hk
 obtain ⟨u,hu,hp⟩:=(h.2.2 _ _ hr).2 _ p hk
 exact ⟨u,by rw [←he];exact hu,hp⟩
theorem HL.flat {M:Av} {w:World} {sz:Nat} {rows:List (List Pr)} {qs:List Pr} {cs:List Value} (hl:∀r∈rows,r.length=sz) (h:HL M w (rows.flatten++qs) cs) (h1:∀c∈cs,c.oneCell'=true):Flat M w sz rows (cs.take (rows.length*sz)):=by
 have hfl:=C4 hl
 have hlen:=h.length
 refine ⟨by rw [List.length_take,hlen,List.length_append,hfl];omega,fun u hu=>h1 u (List.mem_of_mem_take hu),fun i row hi=> ?_⟩
 have hrl:=hl row (List.mem_of_getElem? hi)
 refine ⟨hrl,fun j p hp=> ?_⟩
 have hjl:j<sz:=by rw [←hrl];rcases Nat.lt_or_ge j row.length with h|h;exact h;rw [List.getElem?_eq_none h] at hp;cases hp
 have FF:i<rows.length:=by rcases Nat.lt_or_ge i rows.length with h|h;exact h;rw [List.getElem?_eq_none h] at hi;cases hi
 have hlt:i*sz+j<rows.length*sz:=by have:(i+1)*sz≤rows.length*sz:=Nat.mul_le_mul_right sz FF;rw [Nat.add_mul] at this;omega
 obtain ⟨u,hu,hh⟩:=h.at_ (i*sz+j) p (by rw [List.getElem?_append_left (by rw [hfl];exact hlt),Iv hl hi hjl];exact hp)
 exact ⟨u,by rw [List.getElem?_take,if_pos hlt];exact hu,hh⟩
theorem Gl {zs:List Value} {z:Array Value} {k:Nat} (hz:z.toList=zs) (h1:zs.all (·.oneCell')=true):∀c∈(Builtin.zeroCells z k).toList,c.oneCell'=true:=by
 intro c hc
 simp only [Builtin.zeroCells,Array.toList_map,Array.toList_range,List.mem_map,List.mem_range] at hc
 obtain ⟨i,hi,rfl⟩:=hc
 have hpos:0<z.size:=by rcases Nat.eq_zero_or_pos z.size with h|h;rw [h] at hi;simp at hi;exact h
 have hm:i % z.size<z.size:=Nat.mod_lt _ hpos
 rw [getElem!_pos z _ hm]
 exact List.all_eq_true.1 h1 _ (by rw [←hz];simp)
theorem dZ {M:Av} {w:World} {t ty e:TypeId} {sz bytes:Nat} {zs:List Value} {rows:List (List Pr)} {u:Value} {j:Nat} (ht:P.underlying t=some (.slice e)) (hz:Ax P e=some sz) (hby:Bi P e=some bytes) (EZ:BJ P e=some zs) (hzl:zs.length=sz) (hone:zs.all (·.oneCell')=true) (hsz:0<sz)
  (h:A8 M0 w0 S rs M w) (hj:rs[j]? =some CD) (hu:(slice sz rows).h M w u) (hpos:0<rows.length) (FG:rows.length≤maxLen) (hfit:rows.length*bytes≤140737488355328):
  ∃v' w' M',(Builtin.append_ #[t,t] ty #[.slice none 0 0,u]).run P w= .ok v' w'∧(lens rows.length).h M' w' v'∧Ext M w M' w'∧A8 M0 w0 S (rs.set j (QV e sz rows v')) M' w':=by
 unfold Ax at hz
 unfold Bi at hby
 unfold BJ at EZ
 cases hi:P.info? e with
 |none=>rw [hi] at hz;cases hz
 |some i=>
  rw [hi] at hz hby EZ
  simp only [Option.map_some,Option.some.injEq,Option.map_eq_some_iff] at hz hby EZ
  obtain ⟨z,Xi,EZ⟩:=EZ
  have bl:z.cells.size=sz:=by rw [←hzl,←EZ];simp
  obtain ⟨A',c',rfl,jO,TE,cJ,Fq⟩:=hu
  have QB:(slice sz rows).h M w (.slice A' rows.length c'):=⟨A',c',rfl,jO,TE,cJ,Fq⟩
  obtain ⟨O3,rfl⟩:∃O3,A'=some O3:=by
   obtain ⟨_,b,hb,_⟩:=Fq 0 _ (List.getElem?_eq_getElem hpos)
   exact ⟨b,hb⟩
  obtain ⟨news,hfl,hcell⟩:=Ex hsz QB
  have hrun:=run_append_nil (P:=P) w t ty e i z ht hi Xi O3 rows.length c' news (by rw [hz];exact hfl.1) (fun k u hk=>(hcell k u hk).1) hpos (by unfold maxLen at FG;omega) (by rw [hby];omega)
  generalize hcap:grownCap w rows.length 0 e=cap at hrun
  have hge:rows.length≤cap:=by rw [←hcap];exact grownCap_ge _ _ _ _
  have hle:cap≤maxLen:=by rw [←hcap];exact grownCap_le_maxLen _ _ _ _ FG
  generalize Od:Builtin.zeroCells z.cells (cap-rows.length)=zc at hrun
  have hzs:zc.size=(cap-rows.length)*sz:=by rw [←Od,size_zeroCells,bl]
  have hzo:∀c∈zc.toList,c.oneCell'=true:=by rw [←Od];exact Gl EZ hone
  have hb:Below w.heap.size w (w.drew.alloc (.cells (news.toArray++zc) e)):=((Below.refl _ _).drew).alloc (Nat.le_refl _) _
  have h2:=Ext.below (M:=M) hb
  have FO:Ext M w (fun b o=>M b o∨b=w.heap.size) (w.drew.alloc (.cells (news.toArray++zc) e)):=by
   refine ⟨h2.size,fun a v hc hm=>⟨fun hx=> ?_,(h2.keep a v hc hm).2⟩,fun b o ho hp hm=>⟨fun hx=> ?_,(h2.obj b o ho hp hm).2⟩⟩
   ·
    rcases hx with hx|hx
    · exact hm hx
    · have:=EH hc;omega
   ·
    rcases hx with hx|hx
    · exact hm hx
    · subst hx;simp at ho
  have hs1:(w.drew.alloc (.cells (news.toArray++zc) e)).heap.size=w.heap.size+1:=by simp
  refine ⟨_,_,fun b o=>M b o∨b=w.heap.size,hrun,⟨_,_,rfl⟩,FO,?_⟩
  refine h.replace hj FO hb.os hb.tape hb.output (fun k hk _=>hb.block k hk) rfl (fun b o hm _=> .inl hm) (fun b o hx=> ?_) ?_ rfl (fun b hbk=> ?_)
  ·
   rcases hx with hx|hx
   · have:=h.bd _ _ hx;omega
   · omega
  ·
   refine ⟨w.heap.size,cap,zc.toList,rfl,hge,hle,by simpa using hzs,fun o=> .inr rfl,news++zc.toList,?_,?_,?_⟩
   ·
    have hh:(w.drew.alloc (.cells (news.toArray++zc) e)).heap[w.heap.size]? =some (.cells (news.toArray++zc) e (0,0)):=heap_alloc_new w.drew _
    rw [hh];simp
   · exact ((hfl.st FO).hl hsz).app (J3 _ _ _)
   ·
    intro c hc
    rcases List.mem_append.1 hc with hc|hc
    · exact hfl.2.1 c hc
    · exact hzo c hc
  ·
   have Eb:some w.heap.size=some b:=hbk
   injection Eb with e1
   subst e1
   exact ⟨by rw [hs1];omega,.inr (Nat.le_refl _)⟩
theorem A8.frz {M:Av} {w:World} {b cap sz:Nat} {e:TypeId} {rows:List (List Pr)} {qs:List Pr} {j:Nat} (h:A8 M0 w0 S rs M w) (hj:rs[j]? =some (AE true b e (rows.flatten++qs))) (hl:∀r∈rows,r.length=sz) (hc:rows.length≤cap) (hm:cap≤maxLen) (hq:qs.length=(cap-rows.length)*sz):
  ∃M',Ext M w M' w∧A8 M0 w0 S (rs.set j (Ap e sz (.slice (some ⟨b,0,none⟩) rows.length cap))) M' w∧(slice sz rows).h M' w (.slice (some ⟨b,0,none⟩) rows.length cap):=by
 obtain ⟨⟨hM,cs,hh,hcs,hone⟩,ga⟩:=h.hold _ (List.mem_of_getElem? hj)
 have S4:=(ga b rfl).1
 have hfl:=HL.flat hl hcs hone
 have hlen:=hcs.length
 rw [List.length_append,C4 hl,hq,←Nat.add_mul,show rows.length+(cap-rows.length)=cap by omega] at hlen
 have he:Ext M w (fun b' o=>M b' o∧¬(b'=b∧o<rows.length*sz)) w:=Ext.less fun _ _ h=>h.1
 refine ⟨_,he,?_,EB (hfl.st he) hc hm fun k u hk=> ?_⟩
 ·
  refine h.replace hj he rfl rfl rfl (fun _ _ _=>rfl) rfl (fun b' o hm' hne=>⟨hm',fun hx=>hne (by rw [hx.1];rfl)⟩) (fun b' o hx=>h.bd _ _ hx.1) ?_ rfl (fun b' hbk=> ?_)
  ·
   intro a' n' c' hv hlt
   injection hv with e1 e2 e3
   injection e1 with e1
   subst e1;subst e2;subst e3
   refine ⟨⟨cs.take (rows.length*sz),hfl.1,.inr ⟨b,cap,cs.toArray,rfl,Nat.zero_le _,hh,hc,hm,by simpa using hlen,by simp⟩⟩,fun o ho=>⟨hM o,fun hx=>by omega⟩⟩
  ·
   have Eb:Cy (.slice (some ⟨b,0,none⟩) rows.length cap)=some b':=hbk
   simp only [Cy] at Eb
   split at Eb
   · simp at Eb;subst Eb;exact ⟨S4,.inl rfl⟩
   · cases Eb
 ·
  have S2:k<rows.length*sz:=by rw [←hfl.1];rcases Nat.lt_or_ge k (cs.take (rows.length*sz)).length with h|h;exact h;rw [List.getElem?_eq_none h] at hk;cases hk
  rw [List.getElem?_take,if_pos S2] at hk
  exact ⟨by simp [World.cell?,hh,hk],fun hx=>hx.2 ⟨rfl,S2⟩⟩
end
abbrev str (l:List UInt8):Pr:=is (.string ⟨l.toArray⟩)
theorem JW (l:List UInt8):(ByteArray.mk l.toArray).toList=l:=by rw [ByteArray.toList_eq]
theorem NQ (l:List UInt8):(ByteArray.mk l.toArray).size=l.length:=rfl
section
variable {P:Program} {L:Lg P} {E:Env} {I:CT} {o:Oper}
theorem kD {t u:TypeId} {x y:Operand} {a b:List UInt8} (ho:o.op= .binOp .eql t x y u) (hx:VL E x (str a)) (hy:VL E y (str b)):Ac P I o E (bool (decide (a=b))):=
 Ac.same fun M w ac he _=>by
  have h1:ac.eval x=_:=hx.ev he (by simp [ho,Op.operands])
  have h2:ac.eval y=_:=hy.ev he (by simp [ho,Op.operands])
  refine ⟨_,by simp [execOp,ho,h1,h2,eqGuard,binOp,Op.stringOp,JW];rfl,?_⟩
  show Value.bool _=Value.bool _
  congr 1
  rw [Bool.eq_iff_iff];simp
theorem kE {t u:TypeId} {x y:Operand} {a b:List UInt8} (ho:o.op= .binOp .neq t x y u) (hx:VL E x (str a)) (hy:VL E y (str b)):Ac P I o E (bool (!decide (a=b))):=
 Ac.same fun M w ac he _=>by
  have h1:ac.eval x=_:=hx.ev he (by simp [ho,Op.operands])
  have h2:ac.eval y=_:=hy.ev he (by simp [ho,Op.operands])
  refine ⟨_,by simp [execOp,ho,h1,h2,eqGuard,binOp,Op.stringOp,JW];rfl,?_⟩
  show Value.bool _=Value.bool _
  congr 1
  rw [Bool.eq_iff_iff];simp
theorem Rn:∀(a b:List UInt8),Op.bytesLess a b=decide (Lib.compareBytes a b= -1)
 |_,[]=>by cases ‹List UInt8›<;>simp [Op.bytesLess,Lib.compareBytes]
 |[],_::_=>by simp [Op.bytesLess,Lib.compareBytes]
 |a::x,b::y=>by
  rw [Op.bytesLess,Rn x y,Lib.compareBytes]
  by_cases h1:a<b
  · simp [h1]
  ·
   by_cases h2:b<a
   ·
    have h3:a≠b:=fun e=>by subst e;exact h1 h2
    simp [h1,h2,h3]
   ·
    have h3:a=b:=UInt8.le_antisymm (UInt8.not_lt.1 h2) (UInt8.not_lt.1 h1)
    simp [h1,h2,h3]
theorem NR {t u:TypeId} {x y:Operand} {a b:List UInt8} (ho:o.op= .binOp .geq t x y u) (hx:VL E x (str a)) (hy:VL E y (str b)):Ac P I o E (bool (!decide (Lib.compareBytes a b= -1))):=
 Ac.same fun M w ac he _=>by
  have h1:ac.eval x=_:=hx.ev he (by simp [ho,Op.operands])
  have h2:ac.eval y=_:=hy.ev he (by simp [ho,Op.operands])
  exact ⟨_,by simp [execOp,ho,h1,h2,eqGuard,binOp,Op.stringOp,JW,Rn],rfl⟩
theorem dc {t:TypeId} {x:Operand} {a:List UInt8} (ho:o.op= .call { callee:= .builtin .len,args:= #[x],argTypes:= #[t] }) (ht:P.underlying t=some .string) (hx:VL E x (str a)):Ac P I o E (int ((a.length:Nat):Int)):=
 Ac.same fun M w ac he _=>by
  have h1:ac.eval x=_:=hx.ev he (by simp [ho,Op.operands,Call.operands])
  exact ⟨.int .i64 a.length,by simp [execOp,ho,resolve,invoke,builtin,Builtin.len_,h1,run_underlying ht,goInt,NQ],rfl⟩
theorem QW {t:TypeId} {x y:Operand} {k:IntKind} {a:List UInt8} {i:Int} {c:UInt8} (ho:o.op= .index t x y) (ht:P.underlying t=some .string) (hx:VL E x (str a)) (hy:VL E y (is (.int k i))) (h0:0≤i) (hc:a[i.toNat]? =some c):Ac P I o E (is (.int .u8 c.toNat)):=
 Ac.same fun M w ac he _=>by
  have h1:ac.eval x=_:=hx.ev he (by simp [ho,Op.operands])
  have h2:ac.eval y=_:=hy.ev he (by simp [ho,Op.operands])
  refine ⟨_,?_,rfl⟩
  have hlt:i.toNat<a.length:=by rcases Nat.lt_or_ge i.toNat a.length with h|h;exact h;rw [List.getElem?_eq_none h] at hc;cases hc
  have h3:(ByteArray.mk a.toArray)[i.toNat]? =some c:=by
   rw [getElem?_pos (ByteArray.mk a.toArray) i.toNat (by rw [NQ];exact hlt)]
   rw [List.getElem?_eq_getElem hlt] at hc
   simp only [Option.some.injEq] at hc
   rw [←hc]
   rfl
  simp [execOp,ho,h1,h2,Instr.index,asIntOf,run_underlying ht,h0,h3]
theorem Yi {s t e:TypeId} {x:Operand} {a:List UInt8} (ho:o.op= .convert s t x) (hs:P.underlying s=some .string) (ht:P.underlying t=some (.slice e)) (he:P.underlying e=some (.int .u8)) (hx:VL E x (str a)) (hm:a.length≤maxLen):Ac P I o E (slice 1 (a.map fun c=>[is (.int .u8 c.toNat)])):=
 Ac.val fun M w ac hev hI=>by
  have h1:ac.eval x=_:=hx.ev hev (by simp [ho,Op.operands])
  have hrun:=Lib.run_convert_string_bytes (P:=P) w s t e ⟨a.toArray⟩ hs ht he
  have hcap:=grownCap_ge w a.length 0 e
  have hcm:=grownCap_le_maxLen w a.length 0 e hm
  refine ⟨.slice (some ⟨w.heap.size,0,none⟩) a.length (grownCap w a.length 0 e),Lib.bytesWorld w e ⟨a.toArray⟩,by simp [execOp,ho,h1,hrun];exact ⟨rfl,rfl⟩,?_,?_⟩
  ·
   have hbd:Bd M w:=I.bd _ _ hI
   refine ⟨_,grownCap w a.length 0 e,by rw [List.length_map],by rw [List.length_map];exact hcap,hcm,(fun h=>by cases h),fun i row hr=> ?_⟩
   rw [List.getElem?_map] at hr
   cases hc:a[i]? with
   |none=>rw [hc] at hr;cases hr
   |some c=>
    rw [hc] at hr
    simp only [Option.map_some,Option.some.injEq] at hr
    subst hr
    have FF:i<a.length:=by rcases Nat.lt_or_ge i a.length with h|h;exact h;rw [List.getElem?_eq_none h] at hc;cases hc
    refine ⟨rfl,_,rfl,fun j p hp=> ?_⟩
    have hj:j=0:=by
     rcases Nat.eq_zero_or_pos j with h|h
     · exact h
     · rw [List.getElem?_eq_none (by simp;omega)] at hp;cases hp
    subst hj
    simp only [List.getElem?_cons_zero,Option.some.injEq] at hp
    subst hp
    refine ⟨.int .u8 c.toNat,?_,fun mP=> ?_,rfl,rfl⟩
    ·
     rw [show Addr.add ⟨w.heap.size,0,none⟩ (i*1+0)=⟨w.heap.size,i,none⟩ by unfold Addr.add;split<;>simp_all]
     rw [Lib.bytesWorld_cell w e ⟨a.toArray⟩ i (by rw [NQ];exact FF)]
     have:([]++a).getD i 0=c:=by simp [hc]
     simp [hc]
    · have:=hbd _ _ mP;simp at this
  · exact Lib.bytesWorld_below w e ⟨a.toArray⟩
theorem QX {a:List UInt8} {k:Nat} {c:UInt8} (h:a[k]? =some c):a[((k:Nat):Int).toNat]? =some c:=h
theorem QY {M:Av} {w:World} {v:Value} {xs:List Value} (h:(agg (xs.map is)).h M w v):v= .agg xs.toArray:=by
 obtain ⟨cs,rfl,ho,h2⟩:=h
 congr 1
 have:cs=xs:=by
  clear ho
  induction xs generalizing cs with
  |nil=>cases cs with
   |nil=>rfl
   |cons c cs=>exact h2.elim
  |cons x xs ih=>cases cs with
   |nil=>exact h2.elim
   |cons c cs=>rw [ih cs h2.2,show c=x from h2.1]
 rw [this]
theorem NS {t u:TypeId} {x y:Operand} {r:Bool} (xs ys:List Value) (ho:o.op= .binOp .eql t x y u) (hx:VL E x (agg (xs.map is))) (hy:VL E y (agg (ys.map is))) (hg:P.eqGuardType P.depth t=false) (hr:∀w,(Op.equal t (.agg xs.toArray) (.agg ys.toArray)).run P w= .ok r w):Ac P I o E (bool r):=
 Ac.same fun M w ac he _=>by
  have h1:=QY (hx.ev he (by simp [ho,Op.operands]))
  have h2:=QY (hy.ev he (by simp [ho,Op.operands]))
  exact ⟨_,by simp [execOp,ho,h1,h2,eqGuard,hg,binOp,hr w],rfl⟩
theorem NT {t u:TypeId} {x y:Operand} {r:Bool} (xs ys:List Value) (ho:o.op= .binOp .neq t x y u) (hx:VL E x (agg (xs.map is))) (hy:VL E y (agg (ys.map is))) (hg:P.eqGuardType P.depth t=false) (hr:∀w,(Op.equal t (.agg xs.toArray) (.agg ys.toArray)).run P w= .ok r w):Ac P I o E (bool (!r)):=
 Ac.same fun M w ac he _=>by
  have h1:=QY (hx.ev he (by simp [ho,Op.operands]))
  have h2:=QY (hy.ev he (by simp [ho,Op.operands]))
  exact ⟨_,by simp [execOp,ho,h1,h2,eqGuard,hg,binOp,hr w],rfl⟩
theorem eqS {P:Program} {w:World} {d:Nat} {t:TypeId} {fs:Array Field} {xs ys:Array Value} {r:Bool} (ht:P.underlying t=some (.struct fs)) (hp:P.stoodInHeld t=false) (h:(Op.eqFields d xs ys fs.toList).run P w= .ok r w):(Op.equalIn (d+1) t (.agg xs) (.agg ys)).run P w= .ok r w:=by
 have hf:P.fieldsOf t=fs:=by unfold Program.fieldsOf;rw [ht]
 rw [run_equalIn_struct w d t xs ys (by rw [hf];exact ht) hp,hf];exact h
theorem KM {P:Program} {w:World} {d:Nat} {xs ys:Array Value}:(Op.eqFields d xs ys []).run P w= .ok true w:=by simp [Op.eqFields]
theorem ED {P : Program} {w : World} {d : Nat} {xs ys : Array Value} {f : Field} {fs : List Field} {vx vy : Value} {r q : Bool} (hn : f.name ≠ "_") (ha : (part f.type xs f.offset).run P w = .ok vx w) (hb : (part f.type ys f.offset).run P w = .ok vy w)
  (he:(Op.equalIn d f.type vx vy).run P w= .ok r w) (hr:(Op.eqFields d xs ys fs).run P w= .ok q w):(Op.eqFields d xs ys (f::fs)).run P w= .ok (r&&q) w:=by
 simp only [Op.eqFields,hn,ne_eq,not_false_eq_true,if_true,Sem.run_bind,ha,hb,he,Result.andThen_ok]
 cases r
 · simp
 · simpa using hr
theorem Bn {P:Program} {w:World} {t:TypeId} {cs:Array Value} {off:Nat} {v:Value} (h1:EA P t=true) (hv:cs[off]? =some v):(part t cs off).run P w= .ok v w:=by
 simp [part,E9 h1,hv]
theorem FA {P:Program} {w:World} {d:Nat} {t:TypeId} {k:IntKind} {a b:Int} (h:P.underlying t=some (.int k)):(Op.equalIn (d+1) t (.int k a) (.int k b)).run P w= .ok (decide (a=b)) w:=by
 rw [run_equalIn_int w d t k k a b h];rfl
end
section
variable {P:Program} {L:Lg P} {E:Env} {I:CT} {o:Oper}
theorem NU {M:Av} {w:World} {sz:Nat} {rows:List (List Pr)} {A:Option Addr} {cap lo hi:Nat} (h:(slice sz rows).h M w (.slice A rows.length cap)) (h1:lo≤hi) (h2:hi≤rows.length):
  (slice sz ((rows.take hi).drop lo)).h M w (.slice (if cap=lo then A else A.map (·.add (lo*sz))) (hi-lo) (cap-lo)):=by
 obtain ⟨A',cap',hv,hc,hm,hA,hr⟩:=h
 injection hv with e1 _ e3
 subst e1;subst e3
 have hlen:((rows.take hi).drop lo).length=hi-lo:=by rw [List.length_drop,List.length_take];omega
 refine ⟨_,cap-lo,by rw [hlen],by rw [hlen];omega,by omega,fun h=> ?_,fun i row hi'=> ?_⟩
 ·
  split at h
  · have:=hA h;omega
  ·
   cases hA2:A with
   |none=>have:=hA hA2;omega
   |some a=>rw [hA2] at h;cases h
 ·
  rw [List.getElem?_drop,List.getElem?_take] at hi'
  split at hi'
  ·
   rename_i hlt
   obtain ⟨h3,ad,h4,h5⟩:=hr _ row hi'
   subst h4
   rw [if_neg (by omega)]
   refine ⟨h3,_,rfl,fun j p hp=> ?_⟩
   obtain ⟨u,h6,h7,h8,h9⟩:=h5 j p hp
   refine ⟨u,?_,?_,h8,h9⟩
   · rw [add_add,show lo*sz+(i*sz+j)=(lo+i)*sz+j by rw [Nat.add_mul];omega];exact h6
   · rw [Gt,Jz,show ad.off+lo*sz+(i*sz+j)=ad.off+((lo+i)*sz+j) by rw [Nat.add_mul];omega];exact h7
  · cases hi'
theorem C_ {t e:TypeId} {x y:Operand} {k:IntKind} {h:Int} {sz:Nat} {rows:List (List Pr)} (ho:o.op= .slice t x none (some y) none) (ht:P.underlying t=some (.slice e)) (hz:Ax P e=some sz) (hx:VL E x (slice sz rows)) (hy:VL E y (is (.int k h))) (h0:0≤h) (hl:h≤rows.length):
  Ac P I o E (slice sz (rows.take h.toNat)):=
 Ac.same fun M w a he _=>by
  have h1:=hx.ev he (by simp [ho,Op.operands])
  have h3:a.eval y=_:=hy.ev he (by simp [ho,Op.operands])
  obtain ⟨A,cap,hv,hc,hm,hA,hr⟩:=h1
  have h2:=NU (lo:=0) (hi:=h.toNat) (show (slice sz rows).h M w (.slice A rows.length cap) from ⟨A,cap,rfl,hc,hm,hA,hr⟩) (by omega) (by omega)
  refine ⟨_,?_,by simpa using h2⟩
  have hb:h≤(cap:Int):=by omega
  simp [execOp,ho,hv,h3,Instr.sliceAt,Instr.slice,run_underlying ht,Instr.sliceBounds,Instr.sliceBound,asIntOf,h0,hb,Cl hz]
theorem C5 {t e:TypeId} {x y:Operand} {k:IntKind} {l:Int} {sz:Nat} {rows:List (List Pr)} (ho:o.op= .slice t x (some y) none none) (ht:P.underlying t=some (.slice e)) (hz:Ax P e=some sz) (hx:VL E x (slice sz rows)) (hy:VL E y (is (.int k l))) (h0:0≤l) (hl:l≤rows.length):
  Ac P I o E (slice sz (rows.drop l.toNat)):=
 Ac.same fun M w a he _=>by
  have h1:=hx.ev he (by simp [ho,Op.operands])
  have h3:a.eval y=_:=hy.ev he (by simp [ho,Op.operands])
  obtain ⟨A,cap,hv,hc,hm,hA,hr⟩:=h1
  have h2:=NU (lo:=l.toNat) (hi:=rows.length) (show (slice sz rows).h M w (.slice A rows.length cap) from ⟨A,cap,rfl,hc,hm,hA,hr⟩) (by omega) (Nat.le_refl _)
  rw [List.take_length] at h2
  refine ⟨_,?_,h2⟩
  simp [execOp,ho,hv,h3,Instr.sliceAt,Instr.slice,run_underlying ht,Instr.sliceBounds,Instr.sliceBound,asIntOf,h0,hl,Cl hz]
end
abbrev KO:Pr:=is (.tuple #[])
section
variable {P:Program} {L:Lg P} {n:Fm} {fz:Nat} {E:Env} {M0:Av} {w0:World} {S:Nat→Prop} {rs:List As} {o:Oper} {g:Func} {M1:Av} {w1:World}
theorem results0 {g:Func} {a:Act} {w:World} (hr:g.results= #[]):(results g a.tmps).run P w= .ok (.tuple #[]) w:=by
 rw [Fw,hr];simp [Sem.run_bind]
theorem Fin.kF (hr:g.results= #[]):Fin ⟨fz,[]⟩ E (Hp M0 w0 Eo rs) (bodyPost P g (Ob M0 w0 KO)) .normal:=by
 rintro a w ⟨M,_,hd,he,hi⟩
 obtain ⟨h1,h2⟩:=BE.CZ M0 w0 M w hi
 exact ⟨hd,_,results0 hr,_,rfl,rfl,h2⟩
theorem Fin.Yj {r:As} (hr:g.results= #[]):Fin ⟨fz,[]⟩ E (Hp M0 w0 S (r::At M1 w1::rs)) (bodyPost P g (O5 M0 w0 S rs M1 w1 KO (fun _=>r))) .normal:=by
 rintro a w ⟨M,_,hd,he,hi⟩
 obtain ⟨h1,h2⟩:=cN hi
 exact ⟨hd,_,results0 hr,_,M,rfl,rfl,h1,h2⟩
def VA (E:Env) (v0:Value) (q0:Pr):List Operand→List Pr→Prop
 |[],[]=>True
 |x::xs,p::ps=>(VL E x p∨(VL E x (is v0)∧Pr.le (Ag v0 q0) p))∧VA E v0 q0 xs ps
 |_,_=>False
theorem VA.ev {M M':Av} {w:World} {a:Act} {v0:Value} {q0:Pr} (he:CL M w E o a) (hx:Ext M w M' w) (h0:q0.h M' w v0):∀{xs:List Operand} {ps:List Pr},(∀x∈xs,x∈o.op.operands.toList)→VA E v0 q0 xs ps→HL M' w ps (xs.map a.eval)
 |[],[],_,_=>trivial
 |[],_::_,_,h=>h.elim
 |_::_,[],_,h=>h.elim
 |x::xs,p::ps,hm,h=>by
  refine ⟨?_,VA.ev he hx h0 (fun y hy=>hm y (List.mem_cons_of_mem _ hy)) h.2⟩
  rcases h.1 with h1|⟨h1,h2⟩
  · exact p.st _ _ _ _ _ hx (h1.ev he (hm x (by simp)))
  ·
   have h3:a.eval x=v0:=h1.ev he (hm x (by simp))
   exact h2 _ _ _ ⟨h3,by rw [h3];exact h0⟩
class LD (p:Pr):Prop where
 free:∀M M' w v,p.h M w v→p.h M' w v
instance tR (u:Value):LD (is u):=⟨fun _ _ _ _ h=>h⟩
instance mW (m:Nat):LD (lens m):=⟨fun _ _ _ _ h=>h⟩
end
def S5 (es:List (Value×Value)):Array MapEntry:=(es.zipIdx.map fun p=>({ key:=p.1.1,val:=p.1.2,born:=p.2 }:MapEntry)).toArray
theorem NV (es:List (Value×Value)) (i:Nat):(S5 es)[i]? =(es[i]?).map fun p=>{ key:=p.1,val:=p.2,born:=i }:=by
 simp [S5,List.getElem?_zipIdx]
 cases es[i]? <;>simp
structure vR (P:Program) (T kt et:TypeId) {κ:Type} [DecidableEq κ] (enc:κ→Value):Prop where
 und:P.underlying T=some (.map kt et)
 zero:∀w,(zeroValue et).run P w= .ok (.int .i64 0) w
 eq:∀a b w,(Op.equal kt (enc a) (enc b)).run P w= .ok (decide (a=b)) w
 chk:∀e a w,(Instr.checkKey e 10000 kt (enc a)).run P w= .ok () w
 yg:∃d,P.underlying kt=some d∧((∀a b,Instr.sameNow d (enc a) (enc b)=none)∨∀a b,Instr.sameNow d (enc a) (enc b)=some (decide (a=b)))
 bits:∀a,Instr.sameBits 10000 (enc a) (enc a)=true
section
variable {P:Program} {L:Lg P} {n:Fm} {fz:Nat} {E:Env} {M0:Av} {w0:World} {S:Nat→Prop} {rs:List As} {o:Oper} {κ:Type} [DecidableEq κ] {enc:κ→Value}
abbrev NW (enc:κ→Value) (es:List (κ×Int)):List (Value×Value):=es.map fun p=>(enc p.1,.int .i64 p.2)
def kG (enc:κ→Value) (b:Nat) (es:List (κ×Int)):As where
 blk:=some b
 new:=true
 h M w:=(∀o,M b o)∧w.heap[b]? =some (.map (S5 (NW enc es)) es.length)
 st M w M' w' he hk h:=by
  obtain ⟨h1,h2⟩:=hk b rfl
  exact ⟨fun o=>h2 o (h.1 o),h1.trans h.2⟩
theorem A8.vS {M:Av} {w:World} {obj:Obj} {r:As} (h:A8 M0 w0 S rs M w) (hb:r.blk=some w.heap.size) (hn:r.new=true) (hr:r.h (fun b o=>M b o∨b=w.heap.size) (w.alloc obj)):
  A8 M0 w0 S (r::rs) (fun b o=>M b o∨b=w.heap.size) (w.alloc obj)∧Ext M w (fun b o=>M b o∨b=w.heap.size) (w.alloc obj):=by
 have S4:Below w.heap.size w (w.alloc obj):=(Below.refl _ _).alloc (Nat.le_refl _) _
 have hsz:(w.alloc obj).heap.size=w.heap.size+1:=by simp
 have he:Ext M w (fun b o=>M b o∨b=w.heap.size) (w.alloc obj):=by
  have h2:=Ext.below (M:=M) S4
  refine ⟨h2.size,fun a v hc hm=>⟨fun hx=> ?_,(h2.keep a v hc hm).2⟩,fun b o ho hp hm=>⟨fun hx=> ?_,(h2.obj b o ho hp hm).2⟩⟩
  ·
   rcases hx with hx|hx
   · exact hm hx
   · have:=EH hc;omega
  ·
   rcases hx with hx|hx
   · exact hm hx
   · subst hx;simp at ho
 have hI:=(Hp M0 w0 S rs).st _ _ _ S4 h
 refine ⟨⟨hI.m0,fun b o hm=> .inl (hI.m b o hm),hI.os,hI.tape,hI.output,hI.size,hI.block,fun b o hm=> ?_,fun r' hr'=> ?_,?_⟩,he⟩
 ·
  rcases hm with hm|hm
  · exact hI.bd b o hm
  · omega
 ·
  rcases List.mem_cons.1 hr' with rfl|hr'
  ·
   refine ⟨hr,fun b hbk=> ?_⟩
   rw [hb] at hbk
   injection hbk with hbk
   subst hbk
   exact ⟨by omega,by rw [hn];simpa using h.size⟩
  ·
   obtain ⟨h3,h4⟩:=h.hold r' hr'
   exact ⟨r'.st _ _ _ _ he (fun b hbk=>⟨S4.block b (h4 b hbk).1,fun _ x=> .inl x⟩) h3,fun b hbk=>⟨by have:=(h4 b hbk).1;omega,(h4 b hbk).2⟩⟩
 ·
  refine List.Pairwise.cons (fun r' hr' b hbk Eb=> ?_) h.nd
  rw [hb] at hbk
  injection hbk with hbk
  have:=((h.hold r' hr').2 b Eb).1
  omega
def FP (w:World) (b:Nat) (o:Obj):World:={ w with heap:=w.heap.setIfInBounds b o }
theorem dh {w:World} {b:Nat} {o:Obj} (h:b<w.heap.size):(FP w b o).heap[b]? =some o:=by
 show (w.heap.setIfInBounds b o)[b]? =_
 rw [Array.getElem?_setIfInBounds];simp [h]
theorem JX {w:World} {b k:Nat} {o:Obj} (h:k≠b):(FP w b o).heap[k]? =w.heap[k]? :=by
 show (w.heap.setIfInBounds b o)[k]? =_
 rw [Array.getElem?_setIfInBounds,if_neg (fun e=>h e.symm)]
theorem A8.vT {M:Av} {w:World} {obj:Obj} {r r':As} {j b:Nat} (h:A8 M0 w0 S rs M w) (hj:rs[j]? =some r) (hb:r.blk=some b) (hb':r'.blk=some b) (hn:r.new=true) (hn':r'.new=true) (hM:∀o,M b o) (hr:r'.h M (FP w b obj)):
  A8 M0 w0 S (rs.set j r') M (FP w b obj)∧Ext M w M (FP w b obj):=by
 have hlt:=((h.hold r (List.mem_of_getElem? hj)).2 b hb).1
 have hsz:(FP w b obj).heap.size=w.heap.size:=by simp [FP]
 have he:Ext M w M (FP w b obj):=by
  refine ⟨by omega,fun a v hc hm=>⟨hm,?_⟩,fun k o ho hp hm=>⟨hm,?_⟩⟩
  · rw [World.cell?_of_block (w:=w) (JX (fun e=>hm (by rw [e];exact hM _)))];exact hc
  · rw [JX (fun e=>hm (by rw [e];exact hM _))];exact ho
 refine ⟨h.replace hj he rfl rfl rfl (fun k _ hk=>JX (fun e=>hk (by rw [hb,e]))) hn (fun _ _ hm _=>hm) (fun k o hm=>by rw [hsz];exact h.bd k o hm) hr hn' (fun k hk=> ?_),he⟩
 rw [hb'] at hk
 injection hk with hk
 subst hk
 exact ⟨by omega,.inl hb⟩
variable {Q:Exit→Act→World→Prop} {ops:Array Oper} {r:List Oper}
def PI (it b m:Nat) (seen:List Nat):As where
 blk:=some it
 new:=true
 h M w:=(∀o,M it o)∧w.heap[it]? =some (.mapIter (some b) m seen.toArray m)
 st M w M' w' he hk h:=by
  obtain ⟨h1,h2⟩:=hk it rfl
  exact ⟨fun o=>h2 o (h.1 o),h1.trans h.2⟩
theorem TO.range {d j b:Nat} {T kt et:TypeId} {x:Operand} {es:List (κ×Int)} (hT:vR P T kt et enc) (hg:o.guard=none) (hd:o.dst=some d) (hn:d<n) (ho:o.op= .range T x) (hx:VL E x (is (.map (some b)))) (hj:rs[j]? =some (kG enc b es))
  (k:∀it,TO P n ops r ((d,ptr it 0)::E) (Hp M0 w0 S (PI it b es.length []::rs)) Q):TO P n ops (o::r) E (Hp M0 w0 S rs) Q:=
 TO.Xh hg fun K M w a hsz hdf he hI hK=>by
  have h1:a.eval x=_:=hx.ev (o:=o) (CG he) (by simp [ho,Op.operands])
  obtain ⟨_,hh⟩:=(A8.hold hI _ (List.mem_of_getElem? hj)).1
  refine TO.val (v:= .pointer (some ⟨w.heap.size,0,none⟩)) (w':=w.alloc (.mapIter (some b) es.length #[] es.length)) ?_ ?_
  · simp [execOp,ho,h1,run_range_map w T kt et b _ _ hT.und hh]
  ·
   obtain ⟨h2,h3⟩:=A8.vS (obj:= .mapIter (some b) es.length #[] es.length) (r:=PI w.heap.size b es.length []) hI rfl rfl ⟨fun _=> .inr rfl,by rw [heap_alloc_new]⟩
   refine hK _ _ _ _ (k w.heap.size) ⟨_,by rw [B9];exact hsz,by rw [put_defers];exact hdf,?_,h2⟩
   intro s p hp
   simp only [List.lookup] at hp
   by_cases hs:s=d
   · subst hs;simp at hp;subst hp;rw [hd,Bz (by rw [hsz];exact hn)];rfl
   ·
    rw [show (s==d)=false by simpa using hs] at hp
    rw [hd,Bg hs]
    exact p.st _ _ _ _ _ h3 (he s p hp)
theorem mem_left {es:List (Value×Value)} {seen:List Nat} {e:MapEntry}:e∈(leftOf (S5 es) seen.toArray).toList↔∃q p,es[q]? =some p∧q∉seen∧e={ key:=p.1,val:=p.2,born:=q }:=by
 unfold leftOf
 rw [Array.toList_filter,List.mem_filter]
 constructor
 ·
  rintro ⟨h1,h2⟩
  obtain ⟨q,hq⟩:=List.mem_iff_getElem?.1 h1
  rw [Array.getElem?_toList,NV] at hq
  cases hp:es[q]? with
  |none=>rw [hp] at hq;cases hq
  |some p=>
   rw [hp] at hq
   simp only [Option.map_some,Option.some.injEq] at hq
   subst hq
   exact ⟨q,p,hp,by simpa using h2,rfl⟩
 ·
  rintro ⟨q,p,hp,hq,rfl⟩
  exact ⟨List.mem_iff_getElem?.2 ⟨q,by rw [Array.getElem?_toList,NV,hp];rfl⟩,by simpa using hq⟩
theorem QZ {w:World} (ty:TypeId) {it b m:Nat} {seen:List Nat} {es:List (Value×Value)} (hm:es.length=m) (hit:w.heap[it]? =some (.mapIter (some b) m seen.toArray m)) (hb:w.heap[b]? =some (.map (S5 es) m)):
  ((∀q,q<m→q∈seen)∧(Instr.next (.pointer (some ⟨it,0,none⟩)) false ty).run P w= .ok (.tuple #[.bool false]) w)∨
  ∃q p,es[q]? =some p∧q∉seen∧∃w1,(w1=w∨w1=w.drew)∧(Instr.next (.pointer (some ⟨it,0,none⟩)) false ty).run P w= .ok (.tuple #[.bool true,p.1,p.2]) (FP w1 it (.mapIter (some b) m (seen++[q]).toArray m)):=by
 have hold:∀x∈(S5 es).toList,x.born<m:=by
  intro x hx
  obtain ⟨q,hq⟩:=List.mem_iff_getElem?.1 hx
  rw [Array.getElem?_toList,NV] at hq
  cases hp:es[q]? with
  |none=>rw [hp] at hq;cases hq
  |some p=>
   rw [hp] at hq
   simp only [Option.map_some,Option.some.injEq] at hq
   subst hq
   show q<m
   rcases Nat.lt_or_ge q es.length with h|h
   · omega
   · rw [List.getElem?_eq_none h] at hp;cases hp
 simp only [Instr.next,getObj,Sem.run_bind,Sem.run,hit,hb,Result.andThen,next_test_false seen.toArray (S5 es) m m hold (Nat.le_refl _),Bool.false_eq_true,if_false]
 have hleft:(S5 es).filter (fun e=> !seen.toArray.contains e.born)=leftOf (S5 es) seen.toArray:=rfl
 rw [hleft]
 have hmem:∀x∈(leftOf (S5 es) seen.toArray).toList,x.born<m:=fun x hx=>by
  obtain ⟨q,p,h1,_,rfl⟩:=mem_left.1 hx
  rcases Nat.lt_or_ge q es.length with h|h
  · show q<m;omega
  · rw [List.getElem?_eq_none h] at h1;cases h1
 have hml:∀e,e∈(leftOf (S5 es) seen.toArray).toList↔∃q p,es[q]? =some p∧q∉seen∧e={ key:=p.1,val:=p.2,born:=q }:=fun e=>mem_left
 generalize leftOf (S5 es) seen.toArray=L at hmem hml ⊢
 have e1:L.filter (fun x=>decide (x.born<m))=L:=Array.filter_eq_self.2 (fun x hx=>by simpa using hmem x (by simpa using hx))
 have e2:L.filter (fun x=>decide (x.born≥m))= #[]:=by
  rw [Array.filter_eq_empty_iff]
  intro x hx
  have:=hmem x (by simpa using hx)
  simp
  omega
 simp only [e1,e2,Array.append_empty]
 by_cases h0:L.size=0
 ·
  left
  have hL:L= #[]:=Array.eq_empty_of_size_eq_zero h0
  refine ⟨fun q hq=> ?_,?_⟩
  ·
   rcases Classical.em (q∈seen) with h|h
   · exact h
   ·
    have:=(hml { key:=(es[q]'(by omega)).1,val:=(es[q]'(by omega)).2,born:=q }).2 ⟨q,es[q]'(by omega),List.getElem?_eq_getElem (by omega),h,rfl⟩
    rw [hL] at this;simp at this
  ·
   subst hL
   simp [choose,Sem.run,Question.forced]
 ·
  right
  have hne:L.isEmpty=false:=by simp [Array.isEmpty,h0]
  simp only [hne,Bool.false_eq_true,if_false,Array.empty_append,Array.size_map]
  have hch:∃(j:Nat) (w1:World),j<L.size∧(w1=w∨w1=w.drew)∧(choose (Question.mapNext L.size)).run P w= .ok j w1:=by
   by_cases hf:L.size≤1
   · exact ⟨0,w,by omega,.inl rfl,by simp [choose,Sem.run,Question.forced,hf]⟩
   ·
    exact ⟨_, w.drew, Nat.mod_lt _ (by omega), .inr rfl, by
     simp only [choose,Sem.run,Question.forced,decide_eq_true_eq,hf,if_false,Question.cut]
     rfl⟩
  obtain ⟨j,w1,hj,hal,hrun⟩:=hch
  obtain ⟨q,p,hq1,WI,kH⟩:=(hml L[j]).1 (by simp)
  refine ⟨q,p,hq1,WI,w1,hal,?_⟩
  have hw1:w1.heap=w.heap:=by rcases hal with rfl|rfl<;>rfl
  have JR:∀(o':Obj),(setObj it o').run P w1= .ok () (FP w1 it o'):=fun o'=>by
   have vU:w1.heap[it]? =some (.mapIter (some b) m seen.toArray m):=by rw [hw1];exact hit
   simp only [setObj,Sem.run,vU]
   rfl
  simp only [hrun,Array.getElem?_map,Array.getElem?_eq_getElem hj,Option.map_some,Sem.run_bind,JR,Result.andThen]
  rw [kH]
  simp
omit [DecidableEq κ] in
theorem TO.next {d i j it b:Nat} {x:Operand} {es:List (κ×Int)} {seen:List Nat} (hg:o.guard=none) (hd:o.dst=some d) (hn:d<n) (ho:o.op= .next x false) (hx:VL E x (ptr it 0)) (hi:rs[i]? =some (PI it b es.length seen)) (hj:rs[j]? =some (kG enc b es))
  (k1:(∀q,q<es.length→q∈seen)→TO P n ops r ((d,EI [bool false])::E) (Hp M0 w0 S rs) Q)
  (k2:∀q p,es[q]? =some p→q∉seen→TO P n ops r ((d,EI [bool true,is (enc p.1),int p.2])::E) (Hp M0 w0 S (rs.set i (PI it b es.length (seen++[q])))) Q):TO P n ops (o::r) E (Hp M0 w0 S rs) Q:=
 TO.Xh hg fun K M w a hsz hdf he hI hK=>by
  have h1:a.eval x= .pointer (some ⟨it,0,none⟩):=hx.ev (o:=o) (CG he) (by simp [ho,Op.operands])
  obtain ⟨⟨hMi,hit⟩,hbi⟩:=A8.hold hI _ (List.mem_of_getElem? hi)
  obtain ⟨_,hh⟩:=(A8.hold hI _ (List.mem_of_getElem? hj)).1
  have hlt:=(hbi it rfl).1
  rcases QZ (P:=P) o.type (es:=NW enc es) (by simp [NW]) hit hh with ⟨h2,h3⟩|⟨q,p,h2,h3,w1,h4,h5⟩
  ·
   refine TO.val (v:= .tuple #[.bool false]) (w':=w) ?_ ?_
   · simp [execOp,ho,h1,h3]
   ·
    refine hK _ _ _ _ (k1 h2) ⟨M,by rw [B9];exact hsz,by rw [put_defers];exact hdf,?_,hI⟩
    intro s p hp
    simp only [List.lookup] at hp
    by_cases hs:s=d
    · subst hs;simp at hp;subst hp;rw [hd,Bz (by rw [hsz];exact hn)];exact ⟨_,rfl,rfl,trivial⟩
    ·
     rw [show (s==d)=false by simpa using hs] at hp
     rw [hd,Bg hs];exact he s p hp
  ·
   have Qa:∃p',es[q]? =some p'∧p=(enc p'.1,.int .i64 p'.2):=by
    simp only [NW,List.getElem?_map] at h2
    cases h:es[q]? with
    |none=>rw [h] at h2;cases h2
    |some p'=>rw [h] at h2;simp at h2;exact ⟨p',rfl,h2.symm⟩
   obtain ⟨p',hp',rfl⟩:=Qa
   refine TO.val (v:= .tuple #[.bool true,enc p'.1,.int .i64 p'.2]) (w':=FP w1 it (.mapIter (some b) es.length (seen++[q]).toArray es.length)) ?_ ?_
   · simp [execOp,ho,h1,h5]
   ·
    have kI:Below w.heap.size w w1:=by
     rcases h4 with rfl|rfl
     · exact Below.refl _ _
     · exact (Below.refl _ _).drew
    have hI1:=(Hp M0 w0 S rs).st _ _ _ kI hI
    obtain ⟨h6,h7⟩:=A8.vT (obj:= .mapIter (some b) es.length (seen++[q]).toArray es.length) (r':=PI it b es.length (seen++[q])) hI1 hi rfl rfl rfl rfl hMi ⟨hMi,dh (Nat.lt_of_lt_of_le hlt kI.size)⟩
    refine hK _ _ _ _ (k2 q p' hp' h3) ⟨M,by rw [B9];exact hsz,by rw [put_defers];exact hdf,?_,h6⟩
    intro s p hp
    simp only [List.lookup] at hp
    by_cases hs:s=d
    · subst hs;simp at hp;subst hp;rw [hd,Bz (by rw [hsz];exact hn)];exact ⟨_,rfl,rfl,rfl,rfl,trivial⟩
    ·
     rw [show (s==d)=false by simpa using hs] at hp
     rw [hd,Bg hs]
     exact p.st _ _ _ _ _ ((Ext.below kI).trans h7) (he s p hp)
omit [DecidableEq κ] in
theorem TO.entry {d i j it b q:Nat} {x:Operand} {es:List (κ×Int)} {seen:List Nat} {p:κ×Int} (hg:o.guard=none) (hd:o.dst=some d) (hn:d<n) (ho:o.op= .entry x) (hx:VL E x (ptr it 0)) (hi:rs[i]? =some (PI it b es.length (seen++[q]))) (hj:rs[j]? =some (kG enc b es)) (hq:es[q]? =some p)
  (k:TO P n ops r ((d,EI [is (enc p.1),int p.2])::E) (Hp M0 w0 S rs) Q):TO P n ops (o::r) E (Hp M0 w0 S rs) Q:=
 TO.Xh hg fun K M w a hsz hdf he hI hK=>by
  have h1:a.eval x= .pointer (some ⟨it,0,none⟩):=hx.ev (o:=o) (CG he) (by simp [ho,Op.operands])
  obtain ⟨⟨_,hit⟩,_⟩:=A8.hold hI _ (List.mem_of_getElem? hi)
  obtain ⟨_,hh⟩:=(A8.hold hI _ (List.mem_of_getElem? hj)).1
  have hat:(S5 (NW enc es))[q]? =some { key:=enc p.1,val:= .int .i64 p.2,born:=q }:=by rw [NV];simp [NW,hq]
  have hnd:((S5 (NW enc es)).toList.map (·.born)).Nodup:=by
   have:(S5 (NW enc es)).toList.map (·.born)=List.range (NW enc es).length:=by
    apply List.ext_getElem?
    intro k
    rw [List.getElem?_map,Array.getElem?_toList,NV]
    by_cases hk:k<(NW enc es).length
    · rw [List.getElem?_range hk,List.getElem?_eq_getElem hk];rfl
    · rw [List.getElem?_eq_none (Nat.le_of_not_lt hk),List.getElem?_eq_none (by simp at hk ⊢;omega)];rfl
   rw [this];exact List.nodup_range
  have hfind:(S5 (NW enc es)).find? (fun e=>e.born==q)=some { key:=enc p.1,val:= .int .i64 p.2,born:=q }:=by
   rw [←Array.find?_toList]
   exact find_born { key:=enc p.1,val:= .int .i64 p.2,born:=q } _ hnd (List.mem_iff_getElem?.2 ⟨q,by rw [Array.getElem?_toList];exact hat⟩)
  refine TO.val (v:= .tuple #[enc p.1,.int .i64 p.2]) (w':=w) ?_ ?_
  ·
   have:(Instr.entry (.pointer (some ⟨it,0,none⟩))).run P w= .ok (.tuple #[enc p.1,.int .i64 p.2]) w:=by
    have hb:(seen++[q]).toArray.back? =some q:=by simp
    simp only [Instr.entry,getObj,Sem.run_bind,Sem.run,hit,hh,Result.andThen,hb,bne_self_eq_false,Bool.false_eq_true,if_false,hfind]
    rfl
   simp [execOp,ho,h1,this]
  ·
   refine hK _ _ _ _ k ⟨M,by rw [B9];exact hsz,by rw [put_defers];exact hdf,?_,hI⟩
   intro s p hp
   simp only [List.lookup] at hp
   by_cases hs:s=d
   · subst hs;simp at hp;subst hp;rw [hd,Bz (by rw [hsz];exact hn)];exact ⟨_,rfl,rfl,rfl,trivial⟩
   ·
    rw [show (s==d)=false by simpa using hs] at hp
    rw [hd,Bg hs];exact he s p hp
end
section
variable {P:Program} {L:Lg P}
end
section
variable {P:Program} {L:Lg P} {n:Fm} {fz:Nat} {E:Env} {M0:Av} {w0:World} {S:Nat→Prop} {rs:List As} {o:Oper}
theorem ML (w:World) (A:Option Addr) (t ty e:TypeId) (i:TypeInfo) (z:Value) (ht:P.underlying t=some (.slice e)) (hi:P.info? e=some i) (hz:i.zero=some z)
  (a:Addr) (n c:Nat) (news:List Value) (hl:news.length=n*i.size) (hnews:∀j v,news[j]? =some v→w.cell? (a.add j)=some v)
  (h0:0<n) (h63:(n:Int)≤9223372036854775807) (h48:n*i.bytes≤281474976710656):
  (Builtin.append_ #[t, t] ty #[.slice A 0 0, .slice (some a) n c]).run P w =
   .ok (.slice (some ⟨w.heap.size,0,none⟩) n (grownCap w n 0 e)) (w.drew.alloc (.cells (news.toArray++Builtin.zeroCells z.cells (grownCap w n 0 e-n)) e)):=by
 cases A with
 |none=>exact run_append_nil (w:=w) t ty e i z ht hi hz a n c news hl hnews h0 h63 h48
 |some b=>
  have:=run_append_grow (w:=w) t ty e i z ht hi hz b 0 0 [] (by simp) (by simp) a n c news hl hnews (by omega) (by simpa using h63) (by rw [Nat.zero_add,nextslicecap_zero h0];exact h48)
  simpa using this
theorem Yk {M:Av} {w:World} {t ty e:TypeId} {sz bytes:Nat} {zs:List Value} {rows:List (List Pr)} {u:Value} {j:Nat} (A:Option Addr) (ht:P.underlying t=some (.slice e)) (hz:Ax P e=some sz) (hby:Bi P e=some bytes) (EZ:BJ P e=some zs) (hzl:zs.length=sz) (hone:zs.all (·.oneCell')=true) (hsz:0<sz)
  (h:A8 M0 w0 S rs M w) (hj:rs[j]? =some CD) (hu:(slice sz rows).h M w u) (hpos:0<rows.length) (FG:rows.length≤maxLen) (hfit:rows.length*bytes≤140737488355328):
  ∃v' w' M',(Builtin.append_ #[t,t] ty #[.slice A 0 0,u]).run P w= .ok v' w'∧(lens rows.length).h M' w' v'∧Ext M w M' w'∧A8 M0 w0 S (rs.set j (QV e sz rows v')) M' w':=by
 unfold Ax at hz
 unfold Bi at hby
 unfold BJ at EZ
 cases hi:P.info? e with
 |none=>rw [hi] at hz;cases hz
 |some i=>
  rw [hi] at hz hby EZ
  simp only [Option.map_some,Option.some.injEq,Option.map_eq_some_iff] at hz hby EZ
  obtain ⟨z,Xi,EZ⟩:=EZ
  have bl:z.cells.size=sz:=by rw [←hzl,←EZ];simp
  obtain ⟨A',c',rfl,jO,TE,cJ,Fq⟩:=hu
  have QB:(slice sz rows).h M w (.slice A' rows.length c'):=⟨A',c',rfl,jO,TE,cJ,Fq⟩
  obtain ⟨O3,rfl⟩:∃O3,A'=some O3:=by
   obtain ⟨_,b,hb,_⟩:=Fq 0 _ (List.getElem?_eq_getElem hpos)
   exact ⟨b,hb⟩
  obtain ⟨news,hfl,hcell⟩:=Ex hsz QB
  have hrun:=ML (P:=P) w A t ty e i z ht hi Xi O3 rows.length c' news (by rw [hz];exact hfl.1) (fun k u hk=>(hcell k u hk).1) hpos (by unfold maxLen at FG;omega) (by rw [hby];omega)
  generalize hcap:grownCap w rows.length 0 e=cap at hrun
  have hge:rows.length≤cap:=by rw [←hcap];exact grownCap_ge _ _ _ _
  have hle:cap≤maxLen:=by rw [←hcap];exact grownCap_le_maxLen _ _ _ _ FG
  generalize Od:Builtin.zeroCells z.cells (cap-rows.length)=zc at hrun
  have hzs:zc.size=(cap-rows.length)*sz:=by rw [←Od,size_zeroCells,bl]
  have hzo:∀c∈zc.toList,c.oneCell'=true:=by rw [←Od];exact Gl EZ hone
  have hb:Below w.heap.size w (w.drew.alloc (.cells (news.toArray++zc) e)):=((Below.refl _ _).drew).alloc (Nat.le_refl _) _
  have h2:=Ext.below (M:=M) hb
  have FO:Ext M w (fun b o=>M b o∨b=w.heap.size) (w.drew.alloc (.cells (news.toArray++zc) e)):=by
   refine ⟨h2.size,fun a v hc hm=>⟨fun hx=> ?_,(h2.keep a v hc hm).2⟩,fun b o ho hp hm=>⟨fun hx=> ?_,(h2.obj b o ho hp hm).2⟩⟩
   ·
    rcases hx with hx|hx
    · exact hm hx
    · have:=EH hc;omega
   ·
    rcases hx with hx|hx
    · exact hm hx
    · subst hx;simp at ho
  have hs1:(w.drew.alloc (.cells (news.toArray++zc) e)).heap.size=w.heap.size+1:=by simp
  refine ⟨_,_,fun b o=>M b o∨b=w.heap.size,hrun,⟨_,_,rfl⟩,FO,?_⟩
  refine h.replace hj FO hb.os hb.tape hb.output (fun k hk _=>hb.block k hk) rfl (fun b o hm _=> .inl hm) (fun b o hx=> ?_) ?_ rfl (fun b hbk=> ?_)
  ·
   rcases hx with hx|hx
   · have:=h.bd _ _ hx;omega
   · omega
  ·
   refine ⟨w.heap.size,cap,zc.toList,rfl,hge,hle,by simpa using hzs,fun o=> .inr rfl,news++zc.toList,?_,?_,?_⟩
   ·
    have hh:(w.drew.alloc (.cells (news.toArray++zc) e)).heap[w.heap.size]? =some (.cells (news.toArray++zc) e (0,0)):=heap_alloc_new w.drew _
    rw [hh];simp
   · exact ((hfl.st FO).hl hsz).app (J3 _ _ _)
   ·
    intro c hc
    rcases List.mem_append.1 hc with hc|hc
    · exact hfl.2.1 c hc
    · exact hzo c hc
  ·
   have Eb:some w.heap.size=some b:=hbk
   injection Eb with e1
   subst e1
   exact ⟨by rw [hs1];omega,.inr (Nat.le_refl _)⟩
theorem KP {I:CT} {t e:TypeId} {x:Operand} {A:Option Addr} {m cap:Nat} (ho:o.op= .call { callee:= .builtin .len,args:= #[x],argTypes:= #[t] }) (ht:P.underlying t=some (.slice e)) (hx:VL E x (is (.slice A m cap))):Ac P I o E (int m):=
 Ac.same fun M w a he _=>by
  have h1:a.eval x=_:=hx.ev he (by simp [ho,Op.operands,Call.operands])
  exact ⟨.int .i64 m,by simp [execOp,ho,resolve,invoke,builtin,Builtin.len_,h1,run_underlying ht,goInt],rfl⟩
theorem Ro {I:CT} {t e:TypeId} {x y:Operand} {k:IntKind} {h:Int} {sz b m cap:Nat} (ho:o.op= .slice t x none (some y) none) (ht:P.underlying t=some (.slice e)) (hz:Ax P e=some sz) (hx:VL E x (is (.slice (some ⟨b,0,none⟩) m cap))) (hy:VL E y (is (.int k h))) (h0:0≤h) (hl:h≤m) (hc:m≤cap) (h1m:0<cap):
  Ac P I o E (is (.slice (some ⟨b,0,none⟩) h.toNat cap)):=
 Ac.same fun M w a he _=>by
  have h1:a.eval x=_:=hx.ev he (by simp [ho,Op.operands])
  have h3:a.eval y=_:=hy.ev he (by simp [ho,Op.operands])
  have hb:h≤(cap:Int):=by omega
  refine ⟨_,?_,rfl⟩
  simp [execOp,ho,h1,h3,Instr.sliceAt,Instr.slice,run_underlying ht,Instr.sliceBounds,Instr.sliceBound,asIntOf,h0,hb,Cl hz]
  intro _;rfl
theorem Yl {β:Type} {f:β→List Pr} {l:List β} {qs:List Pr} {sz:Nat} (hf:∀x,(f x).length=sz) {i:Nat} {x:β} (h:l[i]? =some x):((((l.map f).flatten++qs).drop (i*sz)).take sz)=f x:=by
 have hl:∀r∈l.map f,r.length=sz:=fun r hr=>by obtain ⟨y,_,rfl⟩:=List.mem_map.1 hr;exact hf y
 have hi:i<l.length:=by rcases Nat.lt_or_ge i l.length with h'|h';exact h';rw [List.getElem?_eq_none h'] at h;cases h
 have hfl:=C4 hl
 rw [List.length_map] at hfl
 have hle:(i+1)*sz≤l.length*sz:=Nat.mul_le_mul_right sz hi
 rw [Nat.add_mul,Nat.one_mul] at hle
 apply List.ext_getElem?
 intro k
 rw [List.getElem?_take]
 split
 ·
  rename_i hk
  rw [List.getElem?_drop,List.getElem?_append_left (by rw [hfl];omega),Iv hl (by rw [List.getElem?_map,h];rfl) hk]
 ·
  rename_i hk
  rw [List.getElem?_eq_none (by rw [hf];omega)]
theorem PJ {β:Type} {f:β→List Pr} {sz:Nat} (hf:∀x,(f x).length=sz):∀{l:List β} {qs:List Pr} {i:Nat} {x:β},i<l.length→((l.map f).flatten++qs).take (i*sz)++f x++((l.map f).flatten++qs).drop (i*sz+sz)=((l.set i x).map f).flatten++qs
 |[],_,_,_,h=>by simp at h
 |a::l,qs,0,x,_=>by
  simp only [List.map_cons,List.flatten_cons,Nat.zero_mul,List.take_zero,List.nil_append,Nat.zero_add,List.set_cons_zero]
  rw [←hf a,List.append_assoc,List.drop_left,List.append_assoc]
 |a::l,qs,i+1,x,h=>by
  have ih:=PJ hf (l:=l) (qs:=qs) (i:=i) (x:=x) (by simpa using h)
  simp only [List.map_cons,List.flatten_cons,List.set_cons_succ]
  have e1:(i+1)*sz=(f a).length+i*sz:=by rw [hf a,Nat.add_mul];omega
  rw [List.append_assoc,List.append_assoc,e1,List.take_append,List.take_of_length_le (by omega),show (f a).length+i*sz-(f a).length=i*sz by omega,show (f a).length+i*sz+sz=(f a).length+(i*sz+sz) by omega,List.drop_append,List.drop_of_length_le (by omega),show (f a).length+(i*sz+sz)-(f a).length=i*sz+sz by omega,List.nil_append,List.append_assoc (f a) _ qs,←ih]
  simp only [List.append_assoc]
theorem Fh {β:Type} {f:β→List Pr} {l:List β} {qs:List Pr} {sz:Nat} (hf:∀x,(f x).length=sz):((l.map f).flatten++qs).length=l.length*sz+qs.length:=by
 rw [List.length_append,C4 (sz:=sz) (fun r hr=>by obtain ⟨y,_,rfl⟩:=List.mem_map.1 hr;exact hf y),List.length_map]
theorem Bu {β:Type} {f:β→List Pr} {l:List β} {sz:Nat} (hf:∀x,(f x).length=sz):∀r∈l.map f,r.length=sz:=fun r hr=>by obtain ⟨y,_,rfl⟩:=List.mem_map.1 hr;exact hf y
theorem St.WU {b cap sz:Nat} {e:TypeId} {rows:List (List Pr)} {qs:List Pr} (j d:Nat) {p:Pr} (hj:rs[j]? =some (AE true b e (rows.flatten++qs))) (hd:E.lookup d=some p) (hp:Pr.le p (is (.slice (some ⟨b,0,none⟩) rows.length cap)))
  (hl:∀r∈rows,r.length=sz) (hc:rows.length≤cap) (hm:cap≤maxLen) (hq:qs.length=(cap-rows.length)*sz)
  {a:Act} {w:World} (h:St n E (Hp M0 w0 S rs) a w):St n ((d,Ag (.slice (some ⟨b,0,none⟩) rows.length cap) (slice sz rows))::E) (Hp M0 w0 S (rs.set j (Ap e sz (.slice (some ⟨b,0,none⟩) rows.length cap)))) a w:=by
 obtain ⟨M,h1,h2,h3,h4⟩:=h
 obtain ⟨M',h5,h6,h7⟩:=A8.frz h4 hj hl hc hm hq
 refine ⟨M',h1,h2,fun s q hs=> ?_,h6⟩
 simp only [List.lookup] at hs
 split at hs
 ·
  rename_i e1
  have:s=d:=by simpa using e1
  subst this
  simp only [Option.some.injEq] at hs
  subst hs
  have h8:=hp _ _ _ (h3 _ _ hd)
  exact ⟨h8,by rw [show a.tmps.getD s undef=_ from h8];exact h7⟩
 · exact q.st _ _ _ _ _ h5 (h3 s q hs)
theorem Tr.WU {Q:Exit→Act→World→Prop} {c:Code} {b cap sz:Nat} {e:TypeId} (rows:List (List Pr)) {qs:List Pr} (j d:Nat) {p:Pr} (hj:rs[j]? =some (AE true b e (rows.flatten++qs))) (hd:E.lookup d=some p) (hp:Pr.le p (is (.slice (some ⟨b,0,none⟩) rows.length cap)))
  (hl:∀r∈rows,r.length=sz) (hc:rows.length≤cap) (hm:cap≤maxLen) (hq:qs.length=(cap-rows.length)*sz)
  (k:Tr L n ((d,Ag (.slice (some ⟨b,0,none⟩) rows.length cap) (slice sz rows))::E) (Hp M0 w0 S (rs.set j (Ap e sz (.slice (some ⟨b,0,none⟩) rows.length cap)))) c Q):Tr L n E (Hp M0 w0 S rs) c Q:=
 Tr.conv (fun _ _ hs=>hs.WU j d hj hd hp hl hc hm hq) k
theorem Fin.WU {Q:Exit→Act→World→Prop} {x:Exit} {b cap sz:Nat} {e:TypeId} (rows:List (List Pr)) {qs:List Pr} (j d:Nat) {p:Pr} (hj:rs[j]? =some (AE true b e (rows.flatten++qs))) (hd:E.lookup d=some p) (hp:Pr.le p (is (.slice (some ⟨b,0,none⟩) rows.length cap)))
  (hl:∀r∈rows,r.length=sz) (hc:rows.length≤cap) (hm:cap≤maxLen) (hq:qs.length=(cap-rows.length)*sz)
  (k:Fin n ((d,Ag (.slice (some ⟨b,0,none⟩) rows.length cap) (slice sz rows))::E) (Hp M0 w0 S (rs.set j (Ap e sz (.slice (some ⟨b,0,none⟩) rows.length cap)))) Q x):Fin n E (Hp M0 w0 S rs) Q x:=
 Fin.conv (fun _ _ hs=>hs.WU j d hj hd hp hl hc hm hq) k
end
section
variable {P:Program} {L:Lg P} {n:Fm} {fz:Nat} {E:Env} {M0:Av} {w0:World} {S:Nat→Prop} {rs:List As} {o:Oper} {g:Func} {M1:Av} {w1:World}
theorem Ym {β:Type} {f:β→List Pr} {l:List β} {qs:List Pr} (hf:∀x,(f x).length=1) {i:Int} {x:β} {p:Pr} (h:l[i.toNat]? =some x) (hp:f x=[p]):((l.map f).flatten++qs)[0+i.toNat*1]? =some p:=by
 have hl:∀r∈l.map f,r.length=1:=Bu hf
 have hi:i.toNat<l.length:=by rcases Nat.lt_or_ge i.toNat l.length with h'|h';exact h';rw [List.getElem?_eq_none h'] at h;cases h
 have hfl:=C4 hl
 rw [List.length_map] at hfl
 rw [Nat.zero_add,List.getElem?_append_left (by rw [hfl];omega),show i.toNat*1=i.toNat*1+0 by omega,Iv hl (by rw [List.getElem?_map,h];rfl) (by omega),hp];rfl
def Fy (T:TypeId) (ps:List Pr) (v:Value):As:=match v with| .pointer (some a)=>AE true a.block T ps|_=>CD
theorem CX {d j:Nat} {T:TypeId} {zs:List Value} (hg:o.guard=none) (hd:o.dst=some d) (hn:d<n) (ho:o.op= .alloc T) (hz:BJ P T=some zs) (h1':zs.all (·.oneCell')=true):
  Dn P M0 w0 S n j (SR.c CD) ⟨d,Fy T (zs.map is)⟩ o E (Cp.ex fun b=>ptr b 0):=by
 refine ⟨hg,fun M w a rs TH he hI hj=> ?_⟩
 have h1:∀c∈zs,c.oneCell'=true:=fun c hc=>List.all_eq_true.1 h1' c hc
 obtain ⟨z,FM,HC⟩:=RV hz w
 have hrun:(execOp a.eval o).run P w= .ok (.value (.pointer (some ⟨w.heap.size,0,none⟩))) (w.alloc (.cells zs.toArray T)):=by simp [execOp,ho,Instr.alloc,FM,newVar,newRow,←HC]
 rw [hrun]
 have hb:Below w.heap.size w (w.alloc (.cells zs.toArray T)):=(Below.refl _ _).alloc (Nat.le_refl _) _
 have h2:=Ext.below (M:=M) hb
 have FO:Ext M w (fun b o=>M b o∨b=w.heap.size) (w.alloc (.cells zs.toArray T)):=by
  refine ⟨h2.size,fun a v hc hm=>⟨fun hx=> ?_,(h2.keep a v hc hm).2⟩,fun b o ho hp hm=>⟨fun hx=> ?_,(h2.obj b o ho hp hm).2⟩⟩
  ·
   rcases hx with hx|hx
   · exact hm hx
   · have:=EH hc;omega
  ·
   rcases hx with hx|hx
   · exact hm hx
   · subst hx;simp at ho
 have hs1:(w.alloc (.cells zs.toArray T)).heap.size=w.heap.size+1:=by simp
 have hat:(SR.at_ (a.put o.dst (.pointer (some ⟨w.heap.size,0,none⟩))) ⟨d,Fy T (zs.map is)⟩)=AE true w.heap.size T (zs.map is):=by unfold SR.at_ Slot.val;dsimp only;rw [hd,Bz (by rw [TH];exact hn)];rfl
 refine ⟨fun b o=>M b o∨b=w.heap.size,⟨_,rfl⟩,FO,?_⟩
 rw [hat]
 refine hI.replace hj FO hb.os hb.tape hb.output (fun k hk _=>hb.block k hk) rfl (fun b o hm _=> .inl hm) (fun b o hx=> ?_) ?_ rfl (fun b hbk=> ?_)
 ·
  rcases hx with hx|hx
  · have:=hI.bd _ _ hx;omega
  · omega
 · refine ⟨fun o=> .inr rfl,zs,heap_alloc_new w _,J3 _ _ _,h1⟩
 ·
  have Eb:some w.heap.size=some b:=hbk
  injection Eb with e1
  subst e1
  exact ⟨by rw [hs1];omega,.inr (Nat.le_refl _)⟩
theorem DH {t:TypeId} {s:Tmp} {y:Operand} {j m:Nat} {T:TypeId} {ps qs:List Pr} (hg:o.guard=none) (hd:o.dst=none) (ho:o.op= .store t (.tmp s) y) (hx:E.lookup s=some (Cp.ex fun b=>ptr b 0)) (hy:VL E y (DF qs))
  (hz:Ax P t=some m) (hm:qs.length=m) (hl:ps.length=m):Dn P M0 w0 S n j ⟨s,Fy T ps⟩ ⟨s,Fy T qs⟩ o E any:=by
 refine ⟨hg,fun M w a rs hsz he hI hj=> ?_⟩
 have hxv:VL E (.tmp s) (Cp.ex fun b=>ptr b 0):=⟨_,hx,Pr.le_refl _⟩
 obtain ⟨b,h1'⟩:=hxv.ev he (show (Operand.tmp s)∈o.op.operands.toList by simp [ho,Op.operands])
 have h1:a.eval (.tmp s)= .pointer (some ⟨b,0,none⟩):=h1'
 have h1t:a.tmps.getD s undef= .pointer (some ⟨b,0,none⟩):=h1
 have hj':rs[j]? =some (AE true b T ps):=by
  rw [hj];show some (Fy T ps (a.tmps.getD s undef))=_;rw [h1t];rfl
 obtain ⟨h2,h3⟩:=hy.ev he (show y∈o.op.operands.toList by simp [ho,Op.operands])
 obtain ⟨⟨_,cs,h4,h5,h6⟩,_⟩:=hI.hold _ (List.mem_of_getElem? hj')
 have n7:=h5.length
 have gb:=h2.length
 have hcells:(a.eval y).cells.size=m:=by rw [←hm,←gb];simp
 have hrun:(storeCells ⟨b,0,none⟩ (a.eval y).cells.toList 0).run P w= .ok () (w.setRow b (cs.take 0++(a.eval y).cells.toList++cs.drop (0+m)).toArray):=by
  have:=run_storeCells_at (P:=P) b 0 T (a.eval y).cells.toList 0 cs.toArray w h4 (by simp;omega) h3
  simpa [hcells] using this
 have pq:cs.drop (0+m)=[]:=List.drop_eq_nil_of_le (by omega)
 rw [pq,List.take_zero,List.nil_append,List.append_nil] at hrun
 have Fu:(execOp a.eval o).run P w= .ok .skip (w.setRow b (a.eval y).cells.toList.toArray):=by
  simp only [execOp,ho,h1,Instr.storeAt,Instr.sureAddr,storeVar]
  simp [Cl hz,hcells,hrun]
 rw [Fu]
 obtain ⟨h7,h8⟩:=A8.write (qs:=qs) (cs:=(a.eval y).cells.toList) hI hj' h2 h3
 refine ⟨M,trivial,h8,?_⟩
 have hat:(SR.at_ (a.put o.dst undef) ⟨s,Fy T qs⟩)=AE true b T qs:=by
  rw [hd];show Fy T qs (a.tmps.getD s undef)=_;rw [h1t];rfl
 rw [hat];exact h7
theorem Fin.K5 {Q:Exit→Act→World→Prop} {x:Exit} (s j:Nat) {v:Value} {f:Value→As} (g:Nat→As) (hs:E.lookup s=some (Ag v (Cp.ex fun b=>ptr b 0))) (hi:rs[j]? =some (f v)) (hf:∀b,f (.pointer (some ⟨b,0,none⟩))=g b)
  (k:∀b,Fin n ((s,ptr b 0)::E) (Hp M0 w0 S (rs.set j (g b))) Q x):Fin n E (Hp M0 w0 S rs) Q x:=by
 intro a w hst
 obtain ⟨M,h1,h2,he,h4⟩:=hst
 obtain ⟨h5,b,h6⟩:=he s _ hs
 have hv:v= .pointer (some ⟨b,0,none⟩):=by rw [←h5];exact h6
 have hj:rs.set j (g b)=rs:=by
  have hjl:j<rs.length:=by rcases Nat.lt_or_ge j rs.length with h|h;exact h;rw [List.getElem?_eq_none h] at hi;cases hi
  rw [←hf b,←hv]
  rw [List.getElem?_eq_getElem hjl] at hi
  simp at hi
  rw [←hi,List.set_getElem_self]
 refine k b a w ⟨M,h1,h2,?_,by rw [hj];exact h4⟩
 intro t q hq
 simp only [List.lookup] at hq
 by_cases ht:t=s
 · subst ht;simp at hq;subst hq;exact h6
 · rw [show (t==s)=false by simpa using ht] at hq;exact he t q hq
end
section
variable {P:Program} {L:Lg P} {n:Fm} {fz:Nat} {E:Env} {M0:Av} {w0:World} {S:Nat→Prop} {rs:List As} {o:Oper}
def Bb (e:TypeId) (sz:Nat) (rows:List (List Pr)) (v:Value):As where
 blk:=match v with| .slice (some a) _ _=>some a.block|_=>none
 new:=true
 h M w:=(rows=[]∧v= .slice none 0 0)∨(QV e sz rows v).h M w
 st M w M' w' he hk h:=h.imp id fun h=>(QV e sz rows v).st M w M' w' he hk h
theorem Tr.TY {Q:Exit→Act→World→Prop} {c:Code} (e:TypeId) (sz:Nat) (k:Tr L n E (Hp M0 w0 S (Bb e sz [] (.slice none 0 0)::rs)) c Q):Tr L n E (Hp M0 w0 S rs) c Q:=
 Tr.conv (fun _ _ ⟨M,h1,h2,h3,h4⟩=>⟨M,h1,h2,h3,A8.J8 h4 (r:=Bb e sz [] (.slice none 0 0)) rfl (Or.inl ⟨rfl,rfl⟩)⟩) k
theorem VB {M:Av} {w:World} {t ty e:TypeId} {sz bytes:Nat} {zs:List Value} {rows Al:List (List Pr)} {v u:Value} {j:Nat} (ht:P.underlying t=some (.slice e)) (hz:Ax P e=some sz) (hby:Bi P e=some bytes) (EZ:BJ P e=some zs) (hzl:zs.length=sz) (hone:zs.all (·.oneCell')=true) (hsz:0<sz)
  (h:A8 M0 w0 S rs M w) (hj:rs[j]? =some (Bb e sz rows v)) (hl:∀r∈rows,r.length=sz) (hu:(slice sz Al).h M w u) (hpos:0<Al.length) (FG:rows.length+Al.length≤maxLen) (hfit:(rows.length+Al.length)*bytes≤140737488355328):
  ∃v' w' M',(Builtin.append_ #[t,t] ty #[v,u]).run P w= .ok v' w'∧(lens (rows.length+Al.length)).h M' w' v'∧Ext M w M' w'∧A8 M0 w0 S (rs.set j (Bb e sz (rows++Al) v')) M' w':=by
 have hjl:j<rs.length:=by rcases Nat.lt_or_ge j rs.length with h|h;exact h;rw [List.getElem?_eq_none h] at hj;cases hj
 rcases (h.hold _ (List.mem_of_getElem? hj)).1 with ⟨rfl,rfl⟩|Yn
 ·
  have h1:=h.Cm (r':=CD) hj rfl rfl trivial
  have kJ:(rs.set j CD)[j]? =some CD:=List.getElem?_set_self hjl
  obtain ⟨v',w',M',hrun,h2,h3,h4⟩:=dZ (ty:=ty) ht hz hby EZ hzl hone hsz h1 kJ hu hpos (by simpa using FG) (by simpa using hfit)
  rw [List.set_set] at h4
  have h5:=h4.Cm (r':=Bb e sz ([]++Al) v') (List.getElem?_set_self hjl) rfl rfl (.inr (h4.hold _ (List.mem_of_getElem? (List.getElem?_set_self hjl))).1)
  rw [List.set_set] at h5
  exact ⟨v',w',M',hrun,by simpa using h2,h3,h5⟩
 ·
  obtain ⟨b,cap,spare,rfl,hnc,hcm,hsp,Yo⟩:=Yn
  have hC:=h.Cm (r':=AE true b e (rows.flatten++spare.map is)) hj rfl rfl Yo
  have hjC:(rs.set j (AE true b e (rows.flatten++spare.map is)))[j]? =some (AE true b e (rows.flatten++spare.map is)):=List.getElem?_set_self hjl
  obtain ⟨⟨hMb,cs,iH,hcs,Yp⟩,ga⟩:=hC.hold _ (List.mem_of_getElem? hjC)
  have hfl:=C4 hl
  have jR:=hcs.length
  rw [List.length_append,hfl,List.length_map,hsp,←Nat.add_mul,show rows.length+(cap-rows.length)=cap by omega] at jR
  unfold Ax at hz
  unfold Bi at hby
  unfold BJ at EZ
  cases hi:P.info? e with
  |none=>rw [hi] at hz;cases hz
  |some i=>
   rw [hi] at hz hby EZ
   simp only [Option.map_some,Option.some.injEq,Option.map_eq_some_iff] at hz hby EZ
   obtain ⟨z,Xi,EZ⟩:=EZ
   have bl:z.cells.size=sz:=by rw [←hzl,←EZ];simp
   obtain ⟨A',c',rfl,jO,TE,cJ,Fq⟩:=hu
   have QB:(slice sz Al).h M w (.slice A' Al.length c'):=⟨A',c',rfl,jO,TE,cJ,Fq⟩
   obtain ⟨O3,rfl⟩:∃O3,A'=some O3:=by
    obtain ⟨_,b,hb,_⟩:=Fq 0 _ (List.getElem?_eq_getElem hpos)
    exact ⟨b,hb⟩
   obtain ⟨news,PK,hcell⟩:=Ex hsz QB
   have Ta:=PK.1
   have hnews:=PK.hl hsz
   have hT:HL M w rows.flatten (cs.take (rows.length*sz)):=by
    have:=hcs.take (rows.length*sz)
    rwa [←hfl,List.take_left,hfl] at this
   have hne:(.slice (some ⟨b,0,none⟩) (rows++Al).length cap:Value)= .slice (some ⟨b,0,none⟩) (rows.length+Al.length) cap:=by rw [List.length_append]
   by_cases hroom:rows.length+Al.length≤cap
   ·
    have hle:(rows.length+Al.length)*sz≤cap*sz:=Nat.mul_le_mul_right sz hroom
    rw [Nat.add_mul] at hle
    have hrun:=run_append_room (P:=P) (w:=w) t ty e i ht hi b rows.length cap cs.toArray iH O3 Al.length c' news (by rw [hz];exact Ta) (fun k u hk=>(hcell k u hk).1) PK.2.1 hroom (by rw [hz,Ta];simp;omega)
    rw [hz,Ta] at hrun
    have hD:HL M w ((spare.drop (Al.length*sz)).map is) (cs.drop (rows.length*sz+Al.length*sz)):=by
     have:=hcs.drop (rows.length*sz+Al.length*sz)
     have e1:(rows.flatten++spare.map is).drop (rows.length*sz+Al.length*sz)=(spare.drop (Al.length*sz)).map is:=by rw [←hfl,←List.drop_drop,List.drop_left,List.map_drop]
     rwa [e1] at this
    obtain ⟨hW,hX⟩:=A8.write (qs:=rows.flatten++Al.flatten++(spare.drop (Al.length*sz)).map is) (cs:=cs.take (rows.length*sz)++news++cs.drop (rows.length*sz+Al.length*sz)) hC hjC ((hT.app hnews).app hD) (fun c hc=>by
     simp only [List.mem_append] at hc
     rcases hc with (hc|hc)|hc
     · exact Yp c (List.mem_of_mem_take hc)
     · exact PK.2.1 c hc
     · exact Yp c (List.mem_of_mem_drop hc))
    rw [List.set_set] at hW
    refine ⟨_,_,M,hrun,⟨_,_,rfl⟩,hX,?_⟩
    have hW2 := hW.Cm (r' := Bb e sz (rows ++ Al) (.slice (some ⟨b, 0, none⟩) (rows.length + Al.length) cap)) (List.getElem?_set_self hjl) rfl rfl (.inr ⟨b, cap, spare.drop (Al.length * sz), hne.symm, by rw [List.length_append]; exact hroom, hcm, by
     rw [List.length_drop,hsp,List.length_append,←Nat.sub_mul];congr 1;omega,by
     rw [List.flatten_append];exact (hW.hold _ (List.mem_of_getElem? (List.getElem?_set_self hjl))).1⟩)
    rw [List.set_set] at hW2
    exact hW2
   ·
    have hg:cap<rows.length+Al.length:=by omega
    have holds:∀k u,(cs.take (rows.length*sz))[k]? =some u→w.cell? ((⟨b,0,none⟩:Addr).add k)=some u:=by
     intro k u hk
     have hk2:cs[k]? =some u:=by
      rw [List.getElem?_take] at hk
      split at hk
      · exact hk
      · cases hk
     rw [Ft]
     simp [World.cell?,iH,hk2]
    have hto:(cs.take (rows.length*sz)).length=rows.length*sz:=by rw [List.length_take,jR];exact Nat.min_eq_left (Nat.mul_le_mul_right sz hnc)
    have hrun:=run_append_grow (P:=P) (w:=w) t ty e i z ht hi Xi ⟨b,0,none⟩ rows.length cap (cs.take (rows.length*sz)) (by rw [hz];exact hto) holds O3 Al.length c' news (by rw [hz];exact Ta) (fun k u hk=>(hcell k u hk).1) hg (by unfold maxLen at FG;omega) (by rw [hby];exact growslice_fits hg hfit)
    generalize hcap:grownCap w (rows.length+Al.length) cap e=cap' at hrun
    have hge:rows.length+Al.length≤cap':=by rw [←hcap];exact grownCap_ge _ _ _ _
    have hle:cap'≤maxLen:=by rw [←hcap];exact grownCap_le_maxLen _ _ _ _ FG
    generalize Od:Builtin.zeroCells z.cells (cap'-(rows.length+Al.length))=zc at hrun
    have hzs:zc.size=(cap'-(rows.length+Al.length))*sz:=by rw [←Od,size_zeroCells,bl]
    have hzo:∀c∈zc.toList,c.oneCell'=true:=by rw [←Od];exact Gl EZ hone
    generalize kK:((cs.take (rows.length*sz)).toArray++news.toArray++zc)=arr at hrun
    have Gu:arr.toList=cs.take (rows.length*sz)++news++zc.toList:=by rw [←kK];simp
    have hb:Below w.heap.size w (w.drew.alloc (.cells arr e)):=((Below.refl _ _).drew).alloc (Nat.le_refl _) _
    have h2:=Ext.below (M:=M) hb
    have FO:Ext M w (fun b o=>M b o∨b=w.heap.size) (w.drew.alloc (.cells arr e)):=by
     refine ⟨h2.size,fun a v hc hm=>⟨fun hx=> ?_,(h2.keep a v hc hm).2⟩,fun b o ho hp hm=>⟨fun hx=> ?_,(h2.obj b o ho hp hm).2⟩⟩
     ·
      rcases hx with hx|hx
      · exact hm hx
      · have:=EH hc;omega
     ·
      rcases hx with hx|hx
      · exact hm hx
      · subst hx;simp at ho
    have hs1:(w.drew.alloc (.cells arr e)).heap.size=w.heap.size+1:=by simp
    refine ⟨_,_,fun b o=>M b o∨b=w.heap.size,hrun,⟨_,_,rfl⟩,FO,?_⟩
    refine h.replace hj FO hb.os hb.tape hb.output (fun k hk _=>hb.block k hk) rfl (fun b o hm _=> .inl hm) (fun b o hx=> ?_) ?_ rfl (fun b hbk=> ?_)
    ·
     rcases hx with hx|hx
     · have:=h.bd _ _ hx;omega
     · omega
    ·
     refine .inr ⟨w.heap.size,cap',zc.toList,by rw [List.length_append],by rw [List.length_append];exact hge,hle,by rw [List.length_append];simpa using hzs,fun o=> .inr rfl,arr.toList,?_,?_,?_⟩
     ·
      have hh:(w.drew.alloc (.cells arr e)).heap[w.heap.size]? =some (.cells arr e (0,0)):=heap_alloc_new w.drew _
      rw [hh]
     · rw [Gu,List.flatten_append];exact ((hT.st FO).app ((PK.st FO).hl hsz)).app (J3 _ _ _)
     ·
      intro c hc
      rw [Gu] at hc
      simp only [List.mem_append] at hc
      rcases hc with (hc|hc)|hc
      · exact Yp c (List.mem_of_mem_take hc)
      · exact PK.2.1 c hc
      · exact hzo c hc
    ·
     have Eb:some w.heap.size=some b:=hbk
     injection Eb with e1
     subst e1
     exact ⟨by rw [hs1];omega,.inr (Nat.le_refl _)⟩
theorem E2 {t e:TypeId} {x y:Operand} {sz bytes d:Nat} {zs:List Value} {rows Al:List (List Pr)} {v:Value} {p:Pr} {j:Nat} (hg:o.guard=none) (hd:o.dst=some d) (hn:d<n) (ho:o.op= .call { callee:= .builtin .append,args:= #[x,y],argTypes:= #[t,t] })
  (ht:P.underlying t=some (.slice e)) (hz:Ax P e=some sz) (hby:Bi P e=some bytes) (EZ:BJ P e=some zs) (hzl:zs.length=sz) (hone:zs.all (·.oneCell')=true) (hsz:0<sz)
  (hx:VL E x (Ag v p)) (hy:VL E y (slice sz Al)) (hl:∀r∈rows,r.length=sz) (hpos:0<Al.length) (FG:rows.length+Al.length≤maxLen) (hfit:(rows.length+Al.length)*bytes≤140737488355328):Dn P M0 w0 S n j (SR.c (Bb e sz rows v)) ⟨d,Bb e sz (rows++Al)⟩ o E (lens (rows.length+Al.length)):=by
 refine ⟨hg,fun M w a rs TH he hI hj=> ?_⟩
 have h1:a.eval x=v:=(hx.ev he (by simp [ho,Op.operands,Call.operands])).1
 have h2:=hy.ev he (by simp [ho,Op.operands,Call.operands])
 obtain ⟨v',w',M',hrun,h3,h4,h5⟩:=VB (ty:=o.type) ht hz hby EZ hzl hone hsz hI hj hl h2 hpos FG hfit
 have Fu:(execOp a.eval o).run P w= .ok (.value v') w':=by simp [execOp,ho,resolve,invoke,builtin,h1,hrun]
 rw [Fu]
 refine ⟨M',h3,h4,?_⟩
 have:(SR.at_ (a.put o.dst v') ⟨d,Bb e sz (rows++Al)⟩)=Bb e sz (rows++Al) v':=by unfold SR.at_ Slot.val;dsimp only;rw [hd,Bz (by rw [TH];exact hn)]
 rw [this];exact h5
theorem A8.dj {M:Av} {w:World} {sz:Nat} {e:TypeId} {rows:List (List Pr)} {v:Value} {j:Nat} (h:A8 M0 w0 S rs M w) (hj:rs[j]? =some (Bb e sz rows v)) (hl:∀r∈rows,r.length=sz):
  ∃M',Ext M w M' w∧A8 M0 w0 S (rs.set j (Ap e sz v)) M' w∧(slice sz rows).h M' w v:=by
 have hjl:j<rs.length:=by rcases Nat.lt_or_ge j rs.length with h|h;exact h;rw [List.getElem?_eq_none h] at hj;cases hj
 rcases (h.hold _ (List.mem_of_getElem? hj)).1 with ⟨rfl,rfl⟩|Yn
 · exact ⟨M,Ext.refl _ _,h.Cm hj rfl rfl (by intro a n c hv;cases hv),AF sz M w _ rfl⟩
 ·
  obtain ⟨b,cap,spare,rfl,hnc,hcm,hsp,Yo⟩:=Yn
  have hC:=h.Cm (r':=AE true b e (rows.flatten++spare.map is)) hj rfl rfl Yo
  obtain ⟨M',h1,h2,h3⟩:=A8.frz hC (List.getElem?_set_self hjl) hl hnc hcm (by rw [List.length_map];exact hsp)
  rw [List.set_set] at h2
  exact ⟨M',h1,h2,h3⟩
end
section
variable {P:Program} {L:Lg P} {n:Fm} {fz:Nat} {E:Env} {M0:Av} {w0:World} {S:Nat→Prop} {rs:List As} {o:Oper} {ops:Array Oper} {r:List Oper}
def pz (P:Program) (f:FuncId) (args:List Pr) (res:Pr) (r:As) (r':As) (r2:As):Prop:=Entry P f∧∀M0 w0 S rs M w vs,A8 M0 w0 S (r::r2::rs) M w→HL M w args vs→
 Calls P f vs.toArray w fun e w'=>∃v M',e= .returned v∧res.h M' w' v∧Ext M w M' w'∧A8 M0 w0 S (r'::r2::rs) M' w'
theorem pz.of {f : FuncId} {g : Func} {c : Code} {ps : List Pr} {res : Pr} {R R' R2 : As} (hf : P.funcs[f]? = some g) (hb : g.body = some c) (hname : (g.name == "runtime.NumGoroutine") = false) (hlen : ps.length ≤ g.ntmps)
  (h:∀M0 w0 S rs M1 w1,Tr (jI P) g.ntmps (Kz 0 ps) (Hp M0 w0 S (R::At M1 w1::R2::rs)) c (bodyPost P g (O5 M0 w0 S (R2::rs) M1 w1 res (fun _=>R')))):pz P f ps res R R' R2:=by
 refine ⟨⟨g,hf,hname,by rw [hb];rfl⟩,fun M0 w0 S rs M w vs hI hv=> ?_⟩
 refine calls_of_wp hf hb (h M0 w0 S rs M w _ _ ⟨M,?_,rfl,Gv hv,?_⟩)
 ·
  have:=hv.length
  simp [this];omega
 · exact A8.perm (List.Perm.swap _ _ _) (A8.J8 hI (r:=At M w) rfl (Ext.refl _ _))
end
abbrev FQ (k:IntKind):Pr:=Cp.ex fun i:Int=>is (.int k i)
theorem Bx (k:IntKind) (i:Int):Pr.le (is (.int k i)) (FQ k):=fun _ _ _ h=>⟨i,h⟩
section
variable {P:Program} {L:Lg P} {I:CT} {o:Oper} {E:Env}
theorem dm {op:BinOp} {t u:TypeId} {x y:Operand} {k:IntKind} (hop:(op== .xor||op== .or)=true) (ho:o.op= .binOp op t x y u) (hx:VL E x (FQ k)) (hy:VL E y (FQ k)):Ac P I o E (FQ k):=
 Ac.same fun M w a he _=>by
  obtain ⟨m,h1⟩:=hx.ev he (by simp [ho,Op.operands])
  obtain ⟨n,h2⟩:=hy.ev he (by simp [ho,Op.operands])
  have h1:a.eval x= .int k m:=h1
  have h2:a.eval y= .int k n:=h2
  cases op<;>simp at hop<;>exact ⟨_,by simp [execOp,ho,h1,h2,eqGuard,binOp,Op.intBits];rfl,_,rfl⟩
end
theorem PL {β:Type} {f:β→List Pr} {l:List β} {qs:List Pr} {sz:Nat} (hf:∀x,(f x).length=sz) {i:Int} (h:i.toNat<l.length):((((l.map f).flatten++qs).drop (0+i.toNat*sz)).take sz)=f (l[i.toNat]'h):=by
 rw [Nat.zero_add];exact Yl hf (List.getElem?_eq_getElem h)
theorem E3 {β:Type} {f:β→List Pr} {sz:Nat} (hf:∀x,(f x).length=sz) {l:List β} {qs:List Pr} {i:Int} {x:β} (h:i.toNat<l.length):((l.map f).flatten++qs).take (0+i.toNat*sz)++f x++((l.map f).flatten++qs).drop (0+i.toNat*sz+sz)=((l.set i.toNat x).map f).flatten++qs:=by
 rw [Nat.zero_add];exact PJ hf h
theorem NX {β:Type} {l:List β} {i j:Int} (hi:i.toNat<l.length) (hj:j.toNat<l.length):((l.set i.toNat (l[j.toNat]'hj)).set j.toNat (l[i.toNat]'hi)).Perm l:=List.set_set_perm hi hj
section
variable {P:Program} {L:Lg P} {n:Fm} {fz:Nat} {E:Env} {M0:Av} {w0:World} {S:Nat→Prop} {rs:List As} {o:Oper} {β:Type} {b:Nat} {e:TypeId} {f:β→List Pr} {qs:List Pr} {Φ:List β→Prop}
def Df (b:Nat) (e:TypeId) (f:β→List Pr) (Φ:List β→Prop) (qs:List Pr):As where
 blk:=some b
 new:=true
 h M w:=∃st:List β,Φ st∧(AE true b e ((st.map f).flatten++qs)).h M w
 st M w M' w' he hk h:=let ⟨st,h1,h2⟩:=h;⟨st,h1,(AE true b e ((st.map f).flatten++qs)).st M w M' w' he hk h2⟩
theorem St.II (j:Nat) (hj:rs[j]? =some (Df b e f Φ qs)) {a:Act} {w:World} (h:St n E (Hp M0 w0 S rs) a w):
  ∃st:List β,Φ st∧St n E (Hp M0 w0 S (rs.set j (AE true b e ((st.map f).flatten++qs)))) a w:=by
 obtain ⟨M,h1,h2,h3,h4⟩:=h
 have h4:A8 M0 w0 S rs M w:=h4
 obtain ⟨st,hp,h8⟩:=(h4.hold _ (List.mem_of_getElem? hj)).1
 exact ⟨st,hp,M,h1,h2,h3,h4.Cm hj rfl rfl h8⟩
theorem Tr.II {Q:Exit→Act→World→Prop} {c:Code} (j:Nat) (hj:rs[j]? =some (Df b e f Φ qs))
  (k:∀st:List β,Φ st→Tr L n E (Hp M0 w0 S (rs.set j (AE true b e ((st.map f).flatten++qs)))) c Q):Tr L n E (Hp M0 w0 S rs) c Q:=
 fun a w hs=>let ⟨st,h1,h2⟩:=hs.II j hj;k st h1 a w h2
theorem Fin.II {Q:Exit→Act→World→Prop} {x:Exit} (j:Nat) (hj:rs[j]? =some (Df b e f Φ qs))
  (k:∀st:List β,Φ st→Fin n E (Hp M0 w0 S (rs.set j (AE true b e ((st.map f).flatten++qs)))) Q x):Fin n E (Hp M0 w0 S rs) Q x:=
 fun a w hs=>let ⟨st,h1,h2⟩:=hs.II j hj;k st h1 a w h2
theorem TO.II {Q:Exit→Act→World→Prop} {ops:Array Oper} {r:List Oper} (j:Nat) (hj:rs[j]? =some (Df b e f Φ qs))
  (k:∀st:List β,Φ st→TO P n ops r E (Hp M0 w0 S (rs.set j (AE true b e ((st.map f).flatten++qs)))) Q):TO P n ops r E (Hp M0 w0 S rs) Q:=
 fun m hl a w hs=>let ⟨st,h1,h2⟩:=hs.II j hj;k st h1 m hl a w h2
theorem St.FR {st:List β} (j:Nat) (hj:rs[j]? =some (AE true b e ((st.map f).flatten++qs))) (hp:Φ st) {a:Act} {w:World} (h:St n E (Hp M0 w0 S rs) a w):St n E (Hp M0 w0 S (rs.set j (Df b e f Φ qs))) a w:=by
 obtain ⟨M,h1,h2,h3,h4⟩:=h
 have h4:A8 M0 w0 S rs M w:=h4
 exact ⟨M,h1,h2,h3,h4.Cm hj rfl rfl ⟨st,hp,(h4.hold _ (List.mem_of_getElem? hj)).1⟩⟩
theorem Tr.FR {Q:Exit→Act→World→Prop} {c:Code} {st:List β} (Φ:List β→Prop) (j:Nat) (hj:rs[j]? =some (AE true b e ((st.map f).flatten++qs))) (hp:Φ st)
  (k:Tr L n E (Hp M0 w0 S (rs.set j (Df b e f Φ qs))) c Q):Tr L n E (Hp M0 w0 S rs) c Q:=Tr.conv (fun _ _ hs=>hs.FR j hj hp) k
theorem Fin.FR {Q:Exit→Act→World→Prop} {x:Exit} {st:List β} (Φ:List β→Prop) (j:Nat) (hj:rs[j]? =some (AE true b e ((st.map f).flatten++qs))) (hp:Φ st)
  (k:Fin n E (Hp M0 w0 S (rs.set j (Df b e f Φ qs))) Q x):Fin n E (Hp M0 w0 S rs) Q x:=Fin.conv (fun _ _ hs=>hs.FR j hj hp) k
instance (priority:=300) p_ (b:Bool) (p:Prop) [h:D_ b false p]:D_ (!b) true p:=⟨fun e=>h.Ey (by simpa using e)⟩
instance (priority:=300) qA (b:Bool) (p:Prop) [h:D_ b true p]:D_ (!b) false p:=⟨fun e=>h.Ey (by simpa using e)⟩
end
end Cp
namespace Cp
open Go.Sort
section
variable {β:Type} [Inhabited β] {c:β×β→Int} {st:List β} {a b i j:Int}
def mX (c:β×β→Int) (x y:β):Bool:=decide (c (x,y)<0)
theorem gx (h:i.toNat<st.length):st.toArray[i.toNat]! =st[i.toNat]:=by simp [h]
theorem sw (hi:i.toNat<st.length) (hj:j.toNat<st.length):((st.set i.toNat (st[j.toNat]'hj)).set j.toNat (st[i.toNat]'hi)).toArray=swp st.toArray i.toNat j.toNat:=by
 unfold swp
 rw [gx hi,gx hj]
 simp [Array.setIfInBounds_def,hi,hj]
omit [Inhabited β] in
theorem qB {x y:β} (h:¬c (x,y)<0):mX c x y=false:=decide_eq_false h
variable {hi F r:Int}
variable {lt:β→β→Bool} {a0 b0 m n:Nat} {l s s':Array β}
structure PS (lt:β→β→Bool) (a0 b0 a b:Nat) (l s:Array β):Prop where
 ha:a0≤a
 hab:a≤b
 hb:b≤b0
 hp:PermIn a0 b0 l s
 below:Below lt a b s
 out:∀i j,a0≤i→i<j→j<b0→(i<a∨b≤j)→lt s[j]! s[i]! =false
theorem PS.perm (h:PS lt a0 b0 m n l s) (hs:b0≤l.size) (hq:PermIn m n s s'):PS lt a0 b0 m n l s':=by
 have hsz:s.size=l.size:=h.hp.1
 have gp:n≤s.size:=by have:=h.hb;omega
 refine ⟨h.ha,h.hab,h.hb,permIn_trans _ _ _ _ _ h.hp (permIn_mono _ _ _ _ _ _ h.ha h.hb (by omega) hq),Below.permA permIn_all gp h.below hq,fun i j h1 h2 h3 h4=> ?_⟩
 have hm:=h.hab
 by_cases hi:m≤i∧i<n
 ·
  have hj:n≤j:=by omega
  rw [hq.2.1 j (.inr hj)]
  exact permIn_all s s' m n (fun x=>lt s[j]! x=false) gp hq (fun k hk1 hk2=>h.out k j (by have:=h.ha;omega) (by omega) h3 (.inr hj)) i hi.1 hi.2
 ·
  rw [hq.2.1 i (by omega)]
  by_cases hj:m≤j∧j<n
  · exact permIn_all s s' m n (fun x=>lt x s[i]! =false) gp hq (fun k hk1 hk2=>h.out i k h1 (by omega) (by have:=h.hb;omega) (.inl (by omega))) j hj.1 hj.2
  · rw [hq.2.1 j (by omega)];exact h.out i j h1 h2 h3 h4
theorem PS.done (h:PS lt a0 b0 m n l s) (hs:SortedIn lt m n s):PermIn a0 b0 l s∧SortedIn lt a0 b0 s:=by
 refine ⟨h.hp,fun i j h1 h2 h3=> ?_⟩
 by_cases hh:i<m∨n≤j
 · exact h.out i j h1 h2 h3 hh
 · exact hs i j (by omega) h2 (by omega)
theorem PS.eq (hw:SWO lt) (h:PS lt a0 b0 m n l s) (hs:b0≤l.size) {pv:β} {k:Nat} (hm:0<m) (X5:lt s[m-1]! pv=false) (hk:m<k) (hkn:k≤n) (hq:PermIn m n s s') (h1:∀i,m≤i→i<k→lt pv s'[i]! =false) (h2:∀i,k≤i→i<n→lt pv s'[i]! =true):
  PS lt a0 b0 k n l s':=by
 have h':=h.perm hs hq
 have hle:∀j,m≤j→j<n→lt s'[j]! pv=false:=by
  intro j kJ hj2
  by_cases hjk:k≤j
  · exact hw.asym (h2 j hjk hj2)
  ·
   have hb:=h'.below
   rcases hb with hb|hb
   · omega
   ·
    have hb:=hb j kJ hj2
    rw [hq.2.1 (m-1) (.inl (by omega))] at hb
    exact hw.ntrans _ _ _ hb X5
 have key:∀i j,m≤i→i<k→m≤j→j<n→lt s'[j]! s'[i]! =false:=fun i j ha hb hc hd=>hw.ntrans _ _ _ (hle j hc hd) (h1 i ha hb)
 refine ⟨by have:=h.ha;omega,hkn,h.hb,h'.hp,.inr fun i hi1 hi2=>key (k-1) i (by omega) (by omega) (by omega) hi2,fun i j g1 g2 g3 g4=> ?_⟩
 by_cases hh:i<m∨n≤j
 · exact h'.out i j g1 g2 g3 hh
 · exact key i j (by omega) (by omega) (by omega) (by omega)
structure Yq (lt:β→β→Bool) (m n k:Nat) (s:Array β):Prop where
 h1:m≤k
 h2:k<n
 lo:∀i,m≤i→i<k→lt s[i]! s[k]! =true
 up:∀i,k<i→i<n→lt s[i]! s[k]! =false
theorem PS.left (hw:SWO lt) {k:Nat} (h:PS lt a0 b0 m n l s) (hs:b0≤l.size) (hp:Yq lt m n k s) (hq:PermIn m k s s') (kL:SortedIn lt m k s'):PS lt a0 b0 (k+1) n l s':=by
 obtain ⟨h1,h2,lo,up⟩:=hp
 have hsz:s.size=l.size:=h.hp.1
 have hks:k≤s.size:=by have:=h.hb;omega
 have WI:PermIn m n s s':=permIn_mono _ _ _ _ _ _ (Nat.le_refl _) (by omega) (by have:=h.hb;omega) hq
 have h':=h.perm hs WI
 have ek:s'[k]! =s[k]! :=hq.2.1 k (.inr (Nat.le_refl _))
 have lo':∀i,m≤i→i<k→lt s'[i]! s[k]! =true:=fun i g1 g2=>permIn_all s s' m k (fun x=>lt x s[k]! =true) hks hq lo i g1 g2
 have up':∀i,k<i→i<n→lt s'[i]! s[k]! =false:=fun i g1 g2=>by rw [hq.2.1 i (.inr (by omega))];exact up i g1 g2
 refine ⟨by have:=h.ha;omega,by omega,h.hb,h'.hp,.inr fun i g1 g2=> ?_,fun i j g1 g2 g3 g4=> ?_⟩
 · rw [show k+1-1=k by omega,ek];exact up' i (by omega) g2
 ·
  by_cases hh:i<m∨n≤j
  · exact h'.out i j g1 g2 g3 hh
  ·
   rcases Nat.lt_trichotomy i k with hik|hik|hik
   ·
    rcases Nat.lt_trichotomy j k with hjk|hjk|hjk
    · exact kL i j (by omega) g2 hjk
    · subst hjk;rw [ek];exact hw.asym (lo' i (by omega) hik)
    · exact hw.ntrans _ _ _ (up' j hjk (by omega)) (hw.asym (lo' i (by omega) hik))
   · subst hik;rw [ek];exact up' j g2 (by omega)
   · omega
theorem PS.right (hw:SWO lt) {k:Nat} (h:PS lt a0 b0 m n l s) (hs:b0≤l.size) (hp:Yq lt m n k s) (hq:PermIn (k+1) n s s') (kL:SortedIn lt (k+1) n s'):PS lt a0 b0 m k l s':=by
 obtain ⟨h1,h2,lo,up⟩:=hp
 have hsz:s.size=l.size:=h.hp.1
 have gp:n≤s.size:=by have:=h.hb;omega
 have WI:PermIn m n s s':=permIn_mono _ _ _ _ _ _ (by omega) (Nat.le_refl _) gp hq
 have h':=h.perm hs WI
 have ek:s'[k]! =s[k]! :=hq.2.1 k (.inl (by omega))
 have lo':∀i,m≤i→i<k→lt s'[i]! s[k]! =true:=fun i g1 g2=>by rw [hq.2.1 i (.inl (by omega))];exact lo i g1 g2
 have up':∀i,k<i→i<n→lt s'[i]! s[k]! =false:=fun i g1 g2=>permIn_all s s' (k+1) n (fun x=>lt x s[k]! =false) gp hq (fun i q1 q2=>up i (by omega) q2) i (by omega) g2
 refine ⟨h.ha,h1,by have:=h.hb;omega,h'.hp,?_,fun i j g1 g2 g3 g4=> ?_⟩
 ·
  rcases h'.below with hb|hb
  · exact .inl hb
  · exact .inr fun i q1 q2=>hb i q1 (by omega)
 ·
  by_cases hh:i<m∨n≤j
  · exact h'.out i j g1 g2 g3 hh
  ·
   rcases Nat.lt_trichotomy i k with hik|hik|hik
   ·
    rcases Nat.lt_trichotomy j k with hjk|hjk|hjk
    · omega
    · subst hjk;rw [ek];exact hw.asym (lo' i (by omega) hik)
    · exact hw.ntrans _ _ _ (up' j hjk (by omega)) (hw.asym (lo' i (by omega) hik))
   · subst hik;rw [ek];exact up' j g2 (by omega)
   · exact kL i j (by omega) g2 (by omega)
end
section
variable {β:Type} [Inhabited β] {c:β×β→Int} {st:List β}
def Adj (c:β×β→Int) (a b:Int) (l:List β):Prop:=∀k,a.toNat<k→k<b.toNat→mX c l.toArray[k]! l.toArray[k-1]! =false
theorem Adj.go {a i k:Int} (h:Adj c a i st) (h0:0≤a) (ha:a<i) (hk:k=i-1) (hi:i.toNat<st.length) (hk':k.toNat<st.length) (hc:0≤c (st[i.toNat]'hi,st[k.toNat]'hk')):Adj c a (i+1) st:=fun m h1 h2=>by
 rcases Nat.lt_or_ge m i.toNat with hm|hm
 · exact h m h1 hm
 ·
  have e:m=i.toNat:=by omega
  subst e
  rw [show i.toNat-1=k.toNat by omega,gx hi,gx hk'];exact qB (by omega)
end
section
variable {β:Type} [Inhabited β]
def Hw (a b:Int) (l st:List β):Prop:=PermIn a.toNat b.toNat l.toArray st.toArray
def iI (c:β×β→Int) (a b:Int) (l st:List β):Prop:=PermIn a.toNat b.toNat l.toArray st.toArray∧SortedIn (mX c) a.toNat b.toNat st.toArray
theorem Hw.len {a b:Int} {l st:List β} (h:Hw a b l st):st.length=l.length:=by have:=h.1;simpa using this
theorem iI.len {c:β×β→Int} {a b:Int} {l st:List β} (h:iI c a b l st):st.length=l.length:=by have:=h.1.1;simpa using this
def iJ (c:β×β→Int) (hi first lo:Int) (l st:List β):Prop:=st.length=l.length∧st.toArray=siftDown (mX c) hi.toNat first.toNat lo.toNat l.toArray
theorem iJ.len {c:β×β→Int} {hi first lo:Int} {l st:List β} (h:iJ c hi first lo l st):st.length=l.length:=h.1
abbrev PE (c:β×β→Int) (a b pv:Int) (l:List β):Nat×Array β:=partitionEqual (mX c) l.toArray a.toNat b.toNat pv.toNat
abbrev PA (c:β×β→Int) (a b pv:Int) (l:List β):Nat×Bool×Array β:=partition (mX c) l.toArray a.toNat b.toNat pv.toNat
def iK (c:β×β→Int) (a b pv:Int) (l st:List β):Prop:=st.length=l.length∧st.toArray=(PE c a b pv l).2
def iL (c:β×β→Int) (a b pv:Int) (l st:List β):Prop:=st.length=l.length∧st.toArray=(PA c a b pv l).2.2
theorem iK.len {c:β×β→Int} {a b pv:Int} {l st:List β} (h:iK c a b pv l st):st.length=l.length:=h.1
theorem iL.len {c:β×β→Int} {a b pv:Int} {l st:List β} (h:iL c a b pv l st):st.length=l.length:=h.1
theorem Hw.refl (a b:Int) (l:List β):Hw a b l l:=permIn_refl _ _ _
theorem Hw.swap {a b i j:Int} {l st:List β} (h:Hw a b l st) (hi:i.toNat<st.length) (hj:j.toNat<st.length) (h1:a.toNat≤i.toNat) (h2:i.toNat<b.toNat) (h3:a.toNat≤j.toNat) (h4:j.toNat<b.toNat) (hb:b.toNat≤l.length):
  Hw a b l ((st.set i.toNat (st[j.toNat]'hj)).set j.toNat (st[i.toNat]'hi)):=by
 unfold Hw
 rw [sw hi hj]
 exact permIn_trans _ _ _ _ _ h (swp_permIn _ _ _ _ _ h1 h2 h3 h4 (by have:=h.len;simp;omega))
theorem Hw.trans {a b:Int} {l m st:List β} (h:Hw a b l m) (k:Hw a b m st):Hw a b l st:=permIn_trans _ _ _ _ _ h k
end
section
open Go
variable {P:Program} {L:Lg P} {n:Fm} {fz:Nat} {E:Env} {M0:Av} {w0:World} {S:Nat→Prop} {rs:List As} {new:Bool} {b:Nat} {T:TypeId} {ps:List Pr}
end
end Cp
namespace Cp
open Go Go.RowKit Go.Great
section
variable {P:Program} {L:Lg P} {n:Fm} {fz:Nat} {E:Env} {I:CT} {Q:Exit→Act→World→Prop}
theorem Tr.MX {α0 α1:Type} (K:Env) (hK:CM E K) (F:α0→α1→Value→Env) (Ii:α0→α1→Value→CT) (C:α0→α1→Prop) {x y:Code} (h:Tr L n E I x (Exit.then (fun a w=>∃x0 x1 v0,C x0 x1∧St n (F x0 x1 v0++K) (Ii x0 x1 v0) a w) Q))
  (k:∀x0 x1 v0,C x0 x1→Tr L n (F x0 x1 v0++K) (Ii x0 x1 v0) y Q):Tr L n E I (.seq x y) Q:=
 Tr.cut (fun y:α0×α1×Value=>F y.1 y.2.1 y.2.2++K) (fun y=>Ii y.1 y.2.1 y.2.2) (fun y=>C y.1 y.2.1) (Tr.post h fun e a w h=>by cases e<;>first|exact h|(obtain ⟨x0,x1,v0,h1,h2⟩:=h;exact ⟨(x0,x1,v0),h1,h2⟩)) fun y hy=>k y.1 y.2.1 y.2.2 hy
end
section
variable {P:Program} {L:Lg P} {n:Fm} {fz:Nat} {E:Env} {M0:Av} {w0:World} {S:Nat→Prop} {rs:List As} {β:Type} {e:TypeId} {sz:Nat} {f:β→List Pr} {Φ:List β→Prop} {v:Value}
def NY (e:TypeId) (sz:Nat) (f:β→List Pr) (Φ:List β→Prop) (v:Value):As where
 blk:=match v with| .slice (some a) _ _=>some a.block|_=>none
 new:=true
 h M w:=∃st:List β,Φ st∧(Bb e sz (st.map f) v).h M w
 st M w M' w' he hk h:=let ⟨st,h1,h2⟩:=h;⟨st,h1,(Bb e sz (st.map f) v).st M w M' w' he hk h2⟩
theorem C2.dw {g:FuncId} {l:List β} {ps:List Pr} {res:Pr} [LD res] (h0:l=[]→Az P g (is (.slice none 0 0)::ps) res∧Φ [])
  (h1:∀(b cap:Nat) (sp:List Value),C2 P g (is (.slice (some ⟨b,0,none⟩) l.length cap)::ps) res (AE true b e ((l.map f).flatten++sp.map is)) (fun _=>Df b e f Φ (sp.map is)))
  (hl:∀st,Φ st→st.length=l.length) (hE:Entry P g):C2 P g (is v::ps) res (Bb e sz (l.map f) v) (fun _=>NY e sz f Φ v):=by
 refine ⟨hE,fun M0 w0 S rs M w vs hI hv=> ?_⟩
 have hb0:=hI.hold _ (List.mem_cons_self ..)
 rcases hb0.1 with ⟨hnil,rfl⟩|Yn
 ·
  have iM:l=[]:=by simpa using hnil
  obtain ⟨h01,h02⟩:=h0 iM
  refine (h01.2 M w vs hI.bd hv).mono ?_
  rintro e' w' ⟨u,rfl,h2,h3⟩
  have RJ:A8 M0 w0 S (Bb e sz (l.map f) (.slice none 0 0)::rs) M w':=(Hp M0 w0 S _).st _ _ _ h3 hI
  exact ⟨u,M,rfl,LD.free _ _ _ _ h2,Ext.below h3,RJ.Cm (i:=0) rfl rfl rfl ⟨[],h02,.inl ⟨rfl,rfl⟩⟩⟩
 ·
  obtain ⟨b,cap,spare,rfl,hnc,hcm,hsp,Yo⟩:=Yn
  have hC:=hI.Cm (i:=0) (r':=AE true b e ((l.map f).flatten++spare.map is)) rfl rfl rfl Yo
  have oG:(l.map f).length=l.length:=List.length_map ..
  rw [oG] at hv
  refine ((h1 b cap spare).2 M0 w0 S rs M w vs hC hv).mono ?_
  rintro e' w' ⟨u,M',rfl,h2,h3,h4⟩
  refine ⟨u,M',rfl,h2,h3,?_⟩
  obtain ⟨st,hp,hst⟩:=(h4.hold _ (List.mem_cons_self ..)).1
  have hlen:(st.map f).length=(l.map f).length:=by rw [List.length_map,List.length_map,hl st hp]
  exact h4.Cm (i:=0) rfl rfl rfl ⟨st,hp,.inr ⟨b,cap,spare,by rw [hlen],by rw [hlen];exact hnc,hcm,by rw [hlen];exact hsp,hst⟩⟩
theorem St.Yr (j d:Nat) {p:Pr} (hj:rs[j]? =some (NY e sz f Φ v)) (hd:E.lookup d=some (Ag v p)) (hf:∀x,(f x).length=sz) {a:Act} {w:World} (hs:St n E (Hp M0 w0 S rs) a w):
  ∃st:List β,Φ st∧St n ((d,Ag v (slice sz (st.map f)))::E) (Hp M0 w0 S (rs.set j (Ap e sz v))) a w:=by
 obtain ⟨M,h1,h2,h3,h4⟩:=hs
 have h4:A8 M0 w0 S rs M w:=h4
 have hjl:j<rs.length:=by rcases Nat.lt_or_ge j rs.length with h|h;exact h;rw [List.getElem?_eq_none h] at hj;cases hj
 obtain ⟨st,hp,hst⟩:=(h4.hold _ (List.mem_of_getElem? hj)).1
 have h5:=h4.Cm (r':=Bb e sz (st.map f) v) hj rfl rfl hst
 obtain ⟨M',h6,h7,h8⟩:=A8.dj h5 (List.getElem?_set_self hjl) (Bu hf)
 rw [List.set_set] at h7
 refine ⟨st,hp,M',h1,h2,fun s q hq=> ?_,h7⟩
 simp only [List.lookup] at hq
 split at hq
 ·
  rename_i e1
  have:s=d:=by simpa using e1
  subst this
  simp only [Option.some.injEq] at hq
  subst hq
  have h9:=(h3 _ _ hd).1
  exact ⟨h9,by rw [h9];exact h8⟩
 · exact q.st _ _ _ _ _ h6 (h3 s q hq)
theorem TO.Yr {Q:Exit→Act→World→Prop} {ops:Array Oper} {r:List Oper} (j d:Nat) {p:Pr} (hj:rs[j]? =some (NY e sz f Φ v)) (hd:E.lookup d=some (Ag v p)) (hf:∀x,(f x).length=sz)
  (k:∀st:List β,Φ st→TO P n ops r ((d,Ag v (slice sz (st.map f)))::E) (Hp M0 w0 S (rs.set j (Ap e sz v))) Q):TO P n ops r E (Hp M0 w0 S rs) Q:=
 fun m hl a w hs=>let ⟨st,h1,h2⟩:=hs.Yr j d hj hd hf;k st h1 m hl a w h2
theorem Tr.Yr {Q:Exit→Act→World→Prop} {c:Code} (j d:Nat) {p:Pr} (hj:rs[j]? =some (NY e sz f Φ v)) (hd:E.lookup d=some (Ag v p)) (hf:∀x,(f x).length=sz)
  (k:∀st:List β,Φ st→Tr L n ((d,Ag v (slice sz (st.map f)))::E) (Hp M0 w0 S (rs.set j (Ap e sz v))) c Q):Tr L n E (Hp M0 w0 S rs) c Q:=
 fun a w hs=>let ⟨st,h1,h2⟩:=hs.Yr j d hj hd hf;k st h1 a w h2
theorem St.dx {rows:List (List Pr)} (j d:Nat) {p:Pr} (hj:rs[j]? =some (Bb e sz rows v)) (hd:E.lookup d=some (Ag v p)) (hf:∀r∈rows,r.length=sz) {a:Act} {w:World} (hs:St n E (Hp M0 w0 S rs) a w):
  St n ((d,Ag v (slice sz rows))::E) (Hp M0 w0 S (rs.set j (Ap e sz v))) a w:=by
 obtain ⟨M,h1,h2,h3,h4⟩:=hs
 have h4:A8 M0 w0 S rs M w:=h4
 obtain ⟨M',h6,h7,h8⟩:=A8.dj h4 hj hf
 refine ⟨M',h1,h2,fun s q hq=> ?_,h7⟩
 simp only [List.lookup] at hq
 split at hq
 ·
  rename_i e1
  have:s=d:=by simpa using e1
  subst this
  simp only [Option.some.injEq] at hq
  subst hq
  have h9:=(h3 _ _ hd).1
  exact ⟨h9,by rw [h9];exact h8⟩
 · exact q.st _ _ _ _ _ h6 (h3 s q hq)
theorem Tr.dx {Q:Exit→Act→World→Prop} {c:Code} {rows:List (List Pr)} (j d:Nat) {p:Pr} (hj:rs[j]? =some (Bb e sz rows v)) (hd:E.lookup d=some (Ag v p)) (hf:∀r∈rows,r.length=sz)
  (k:Tr L n ((d,Ag v (slice sz rows))::E) (Hp M0 w0 S (rs.set j (Ap e sz v))) c Q):Tr L n E (Hp M0 w0 S rs) c Q:=
 fun a w hs=>k a w (hs.dx j d hj hd hf)
theorem NZ {rows:List (List Pr)} (h:rows=[]):Pr.le (is (.slice none 0 0)) (Ag (.slice none 0 0) (lens rows.length)):=by
 subst h;exact fun _ _ _ hv=>⟨hv,⟨none,0,by rw [hv];rfl⟩⟩
theorem Cr {v:Value} {a b:Nat} (h:a=b):Pr.le (Ag v (lens a)) (Ag v (lens b)):=by subst h;exact Pr.le_refl _
end
section
variable {P:Program} {L:Lg P} {n:Fm} {fz:Nat} {E:Env} {M0:Av} {w0:World} {S:Nat→Prop} {rs:List As} {o:Oper}
end
section
variable {P:Program} {L:Lg P} {n:Fm} {fz:Nat} {E:Env} {M0:Av} {w0:World} {S:Nat→Prop} {rs:List As} {ε:Type} {res:ε→List As}
def HD (res:ε→List As) (es:List ε):List As:=es.flatMap res
theorem Tc:∀{es:List ε} {k:Nat} {x:ε},es[k]? =some x→(HD res es).Perm (res x++HD res (es.eraseIdx k))
 |[],_,_,h=>by simp at h
 |a::es,0,x,h=>by
  simp only [List.getElem?_cons_zero,Option.some.injEq] at h
  subst h
  exact List.Perm.refl _
 |a::es,k+1,x,h=>by
  have ih:=Tc (es:=es) (k:=k) (x:=x) (by simpa using h)
  show (res a++HD res es).Perm (res x++(res a++HD res (es.eraseIdx k)))
  refine (ih.append_left (res a)).trans ?_
  rw [←List.append_assoc,←List.append_assoc]
  exact List.perm_append_comm.append_right _
theorem VC:∀{es:List ε} {k:Nat} (x:ε),k<es.length→(res x++HD res (es.eraseIdx k)).Perm (HD res (es.set k x))
 |[],_,_,h=>absurd h (Nat.not_lt_zero _)
 |a::es,0,x,_=>List.Perm.refl _
 |a::es,k+1,x,h=>by
  have ih:=VC (es:=es) (k:=k) x (by simpa using h)
  show (res x++(res a++HD res (es.eraseIdx k))).Perm (res a++HD res (es.set k x))
  refine List.Perm.trans ?_ (ih.append_left (res a))
  rw [←List.append_assoc,←List.append_assoc]
  exact List.perm_append_comm.append_right _
theorem Rp (es:List ε) (x:ε):HD res (es++[x])=HD res es++res x:=by unfold HD;simp
theorem Na {a b c:List As} (h:b.Perm c):(a++b).Perm (a++c):=h.append_left a
theorem St.perm {rs':List As} (hp:rs.Perm rs') {a:Act} {w:World} (h:St n E (Hp M0 w0 S rs) a w):St n E (Hp M0 w0 S rs') a w:=by
 obtain ⟨M,h1,h2,h3,h4⟩:=h
 exact ⟨M,h1,h2,h3,A8.perm hp h4⟩
theorem Tr.focus {Q:Exit→Act→World→Prop} {c:Code} (CK:List As) {es:List ε} {k:Nat} {x:ε} (hx:es[k]? =some x) (Rr:rs=CK++HD res es) (kk:Tr L n E (Hp M0 w0 S (res x++(CK++HD res (es.eraseIdx k)))) c Q):Tr L n E (Hp M0 w0 S rs) c Q:=
 Tr.conv (fun _ _ hs=>hs.perm (by
  subst Rr
  refine (Na (Tc hx)).trans ?_
  rw [←List.append_assoc,←List.append_assoc]
  exact List.perm_append_comm.append_right _)) kk
theorem KQ (CK:List As) {es:List ε} {k:Nat} (x:ε) (hk:k<es.length) (Rr:rs=res x++(CK++HD res (es.eraseIdx k))):rs.Perm (CK++HD res (es.set k x)):=by
 subst Rr
 refine List.Perm.trans ?_ (Na (VC x hk))
 rw [←List.append_assoc,←List.append_assoc]
 exact List.perm_append_comm.append_right _
theorem Fin.Qb {Q:Exit→Act→World→Prop} {e:Exit} (CK:List As) {es:List ε} {k:Nat} (x:ε) (hk:k<es.length) (Rr:rs=res x++(CK++HD res (es.eraseIdx k))) (kk:Fin n E (Hp M0 w0 S (CK++HD res (es.set k x))) Q e):Fin n E (Hp M0 w0 S rs) Q e:=
 Fin.conv (fun _ _ hs=>hs.perm (KQ CK x hk Rr)) kk
theorem Tr.Qb {Q:Exit→Act→World→Prop} {c:Code} (CK:List As) {es:List ε} {k:Nat} (x:ε) (hk:k<es.length) (Rr:rs=res x++(CK++HD res (es.eraseIdx k))) (kk:Tr L n E (Hp M0 w0 S (CK++HD res (es.set k x))) c Q):Tr L n E (Hp M0 w0 S rs) c Q:=
 Tr.conv (fun _ _ hs=>hs.perm (KQ CK x hk Rr)) kk
theorem Tr.fold {Q:Exit→Act→World→Prop} {c:Code} (CK:List As) {es:List ε} (x:ε) (Rr:rs=res x++(CK++HD res es)) (kk:Tr L n E (Hp M0 w0 S (CK++HD res (es++[x]))) c Q):Tr L n E (Hp M0 w0 S rs) c Q:=
 Tr.conv (fun _ _ hs=>hs.perm (by
  subst Rr
  rw [Rp,←List.append_assoc CK]
  exact List.perm_append_comm)) kk
theorem Tr.qC {Q:Exit→Act→World→Prop} {c:Code} {e:TypeId} {sz:Nat} {rows:List (List Pr)} {v:Value} (j:Nat) (hj:rs[j]? =some (Bb e sz rows v)) (hne:rows≠[])
  (k:∀(b cap:Nat) (sp:List Value),v= .slice (some ⟨b,0,none⟩) rows.length cap→rows.length≤cap→cap≤maxLen→sp.length=(cap-rows.length)*sz→Tr L n E (Hp M0 w0 S (rs.set j (AE true b e (rows.flatten++sp.map is)))) c Q):Tr L n E (Hp M0 w0 S rs) c Q:=by
 intro a w hs
 obtain ⟨M,h1,h2,h3,h4⟩:=hs
 have h4:A8 M0 w0 S rs M w:=h4
 rcases (h4.hold _ (List.mem_of_getElem? hj)).1 with ⟨h5,_⟩|⟨b,cap,sp,rfl,h5,h6,h7,h8⟩
 · exact absurd h5 hne
 · exact k b cap sp rfl h5 h6 h7 a w ⟨M,h1,h2,h3,h4.Cm hj rfl rfl h8⟩
end
section
variable {P:Program} {L:Lg P} {n:Fm} {fz:Nat} {E:Env} {M0:Av} {w0:World} {S:Nat→Prop} {rs:List As} {o:Oper}
end
section
variable {P:Program} {L:Lg P} {n:Fm} {fz:Nat} {E:Env} {M0:Av} {w0:World} {S:Nat→Prop} {rs:List As} {o:Oper}
instance mY (p q:Pr) [LD p] [LD q]:LD (EI [p,q]):=⟨fun M M' w v ⟨cs,h1,h2⟩=>⟨cs,h1,by
 match cs,h2 with
 |[a,b],h2=>exact ⟨LD.free _ _ _ _ h2.1,LD.free _ _ _ _ h2.2.1,trivial⟩⟩⟩
end
section
variable {P:Program} {L:Lg P} {n:Fm} {fz:Nat} {E:Env} {M0:Av} {w0:World} {S:Nat→Prop} {o:Oper}
end
section
variable {P:Program} {L:Lg P} {n:Fm} {fz:Nat} {E:Env} {M0:Av} {w0:World} {S:Nat→Prop} {rs:List As} {ε:Type} {res:ε→List As}
theorem A8.Qc {Φ:ε→Av→World→Prop} {w:World} (hst:∀x M M',Ext M w M' w→Φ x M w→Φ x M' w) (h1:∀x rs M,A8 M0 w0 S (res x++rs) M w→∃M',Ext M w M' w∧A8 M0 w0 S rs M' w∧Φ x M' w):
  ∀(X:List ε) (CK:List As) (M:Av),A8 M0 w0 S (CK++HD res X) M w→∃M',Ext M w M' w∧A8 M0 w0 S CK M' w∧∀x∈X,Φ x M' w
 |[],CK,M,h=>⟨M,Ext.refl _ _,by simpa [HD] using h,fun x hx=>by simp at hx⟩
 |x::X,CK,M,h=>by
  have hp:(CK++HD res (x::X)).Perm (res x++(CK++HD res X)):=by
   show (CK++(res x++HD res X)).Perm _
   rw [←List.append_assoc,←List.append_assoc]
   exact List.perm_append_comm.append_right _
  obtain ⟨M1,g1,g2,g3⟩:=h1 x _ M (A8.perm hp h)
  obtain ⟨M2,k1,k2,k3⟩:=A8.Qc hst h1 X CK M1 g2
  refine ⟨M2,g1.trans k1,k2,fun y hy=> ?_⟩
  rcases List.mem_cons.1 hy with rfl|hy
  · exact hst _ _ _ k1 g3
  · exact k3 y hy
theorem Tr.iN {Q:Exit→Act→World→Prop} {c:Code} (j:Nat) {new:Bool} {b:Nat} {T:TypeId} {ps:List Pr} (qs:List Pr) (hi:rs[j]? =some (AE new b T ps)) (h:ps=qs) (k:Tr L n E (Hp M0 w0 S (rs.set j (AE new b T qs))) c Q):Tr L n E (Hp M0 w0 S rs) c Q:=by
 subst h;exact Tr.IC j ps hi (OW.rfl' ps) k
theorem Fin.iN {Q:Exit→Act→World→Prop} {e:Exit} (j:Nat) {new:Bool} {b:Nat} {T:TypeId} {ps:List Pr} (qs:List Pr) (hi:rs[j]? =some (AE new b T ps)) (h:ps=qs) (k:Fin n E (Hp M0 w0 S (rs.set j (AE new b T qs))) Q e):Fin n E (Hp M0 w0 S rs) Q e:=by
 subst h;exact Fin.IC j ps hi (OW.rfl' ps) k
theorem Ys {e:TypeId} {sz:Nat} {rows Al:List (List Pr)} {v:Value} {M:Av} {w:World} (hl:rows.length=Al.length) (hf:rows.flatten.length=Al.flatten.length) (h:∀vs,HL M w rows.flatten vs→HL M w Al.flatten vs) (ho:(Bb e sz rows v).h M w):(Bb e sz Al v).h M w:=by
 rcases ho with ⟨h1,h2⟩|⟨b,cap,sp,h1,h2,h3,h4,h5,cs,h6,h7,h8⟩
 ·
  refine .inl ⟨?_,h2⟩
  subst h1
  exact List.length_eq_zero_iff.1 hl.symm
 ·
  refine .inr ⟨b,cap,sp,by rw [←hl];exact h1,by rw [←hl];exact h2,h3,by rw [←hl];exact h4,h5,cs,h6,?_,h8⟩
  have e1:=h7.take rows.flatten.length
  have e2:=h7.drop rows.flatten.length
  rw [List.take_left] at e1
  rw [List.drop_left] at e2
  have:=(h _ e1).app e2
  rwa [List.take_append_drop] at this
theorem Tr.Qc {Q:Exit→Act→World→Prop} {c:Code} {X:List ε} {Φ:ε→Av→World→Prop} {e:TypeId} {sz d:Nat} {f g:ε→List Pr} {v:Value} {p:Pr} (CK:List As) (Rr:rs=Bb e sz (X.map f) v::CK++HD res X) (hd:E.lookup d=some (Ag v p)) (hf:∀x,(f x).length=sz) (hg:∀x,(g x).length=sz)
  (hst:∀x M M' w,Ext M w M' w→Φ x M w→Φ x M' w) (h1:∀x rs M w,A8 M0 w0 S (res x++rs) M w→∃M',Ext M w M' w∧A8 M0 w0 S rs M' w∧Φ x M' w) (h2:∀x M w vs,Φ x M w→HL M w (f x) vs→HL M w (g x) vs)
  (k:Tr L n ((d,Ag v (slice sz (X.map g)))::E) (Hp M0 w0 S (Ap e sz v::CK)) c Q):Tr L n E (Hp M0 w0 S rs) c Q:=by
 subst Rr
 intro a w hs
 obtain ⟨M,k1,k2,k3,k4⟩:=hs
 have k4:A8 M0 w0 S ((Bb e sz (X.map f) v::CK)++HD res X) M w:=k4
 obtain ⟨M1,g1,g2,g3⟩:=A8.Qc (Φ:=Φ) (fun x M M'=>hst x M M' w) (fun x rs M=>h1 x rs M w) X _ M k4
 have hlen:∀(f:ε→List Pr),(∀x,(f x).length=sz)→(X.map f).flatten.length=X.length*sz:=fun f hf=>by
  rw [C4 (Bu hf),List.length_map]
 have hown:(Bb e sz (X.map g) v).h M1 w:=by
  refine Ys (by simp) (by rw [hlen f hf,hlen g hg]) (fun vs hvs=> ?_) (g2.hold _ (List.mem_cons_self ..)).1
  have key:∀(Y:List ε) (vs:List Value),(∀x∈Y,Φ x M1 w)→HL M1 w (Y.map f).flatten vs→HL M1 w (Y.map g).flatten vs:=by
   intro Y
   induction Y with
   |nil=>intro vs _ h;exact h
   |cons y Y ih=>
    intro vs hY h
    rw [List.map_cons,List.flatten_cons] at h ⊢
    have e1:=h.take (f y).length
    have e2:=h.drop (f y).length
    rw [List.take_left] at e1
    rw [List.drop_left] at e2
    have:=(h2 y M1 w _ (hY y (List.mem_cons_self ..)) e1).app (ih _ (fun x hx=>hY x (List.mem_cons_of_mem _ hx)) e2)
    rwa [List.take_append_drop] at this
  exact key X vs g3 hvs
 have g4:=g2.Cm (i:=0) (r':=Bb e sz (X.map g) v) rfl rfl rfl hown
 obtain ⟨M2,j1,j2,j3⟩:=A8.dj (j:=0) g4 rfl (Bu hg)
 refine k a w ⟨M2,k1,k2,fun s q hq=> ?_,j2⟩
 have hE:Ext M w M2 w:=g1.trans j1
 simp only [List.lookup] at hq
 split at hq
 ·
  rename_i e1
  have:s=d:=by simpa using e1
  subst this
  simp only [Option.some.injEq] at hq
  subst hq
  have h9:=(k3 _ _ hd).1
  exact ⟨h9,by rw [h9];exact j3⟩
 · exact q.st _ _ _ _ _ hE (k3 s q hq)
end
section
variable {P:Program} {L:Lg P} {n:Fm} {fz:Nat} {E:Env} {M0:Av} {w0:World} {S:Nat→Prop} {o:Oper}
theorem Rs {I:CT} {t e:TypeId} {x:Operand} {m:Nat} (ho:o.op= .call { callee:= .builtin .len,args:= #[x],argTypes:= #[t] }) (ht:P.underlying t=some (.slice e)) (hx:VL E x (lens m)):Ac P I o E (int m):=
 Ac.same fun M w a he _=>by
  obtain ⟨A,c,h1⟩:=hx.ev he (by simp [ho,Op.operands,Call.operands])
  exact ⟨.int .i64 m,by simp [execOp,ho,resolve,invoke,builtin,Builtin.len_,h1,run_underlying ht,goInt],rfl⟩
end
end Cp
namespace Cp
open Go Go.RowKit
section
variable {P:Program} {L:Lg P} {I:CT} {o:Oper} {E:Env}
theorem WV {c y:Operand} {b d:Bool} (ho:o.op= .pick c (.const (.bool true)) y) (hc:VL E c (bool b)) (hy:VL E y (bool d)):Ac P I o E (bool (b||d)):=by
 cases b with
 |true=>exact Ir ho hc rfl (vl rfl)
 |false=>exact Is ho hc rfl hy
theorem Td {c x:Operand} {b d:Bool} (ho:o.op= .pick c x (.const (.bool false))) (hc:VL E c (bool b)) (hx:VL E x (bool d)):Ac P I o E (bool (b&&d)):=by
 cases b with
 |true=>exact Ir ho hc rfl hx
 |false=>exact Is ho hc rfl (vl rfl)
theorem Nc {β:Type} {g:β→Pr} {l:List β} {qs:List Pr} {i:Int} (h:i.toNat<l.length):((l.map fun x=>[g x]).flatten++qs)[0+i.toNat*1]? =some (g (l[i.toNat]'h)):=
 Ym (f:=fun x=>[g x]) (fun _=>rfl) (List.getElem?_eq_getElem h) rfl
end
section
variable {P:Program} {L:Lg P} {n:Fm} {fz:Nat} {E:Env} {M0:Av} {w0:World} {S:Nat→Prop} {rs:List As} {o:Oper}
end
end Cp
namespace Cp
open Go Go.RowKit Go.Great
def Qd {α:Type} (P:Program) (f:FuncId) (args:List Pr) (pre:List As) (C:α→Prop) (res:α→Pr) (post:α→List As):Prop:=Entry P f∧∀M0 w0 S rs M w vs,A8 M0 w0 S (pre++rs) M w→HL M w args vs→
 Calls P f vs.toArray w fun e w'=>∃v M' x,e= .returned v∧C x∧(res x).h M' w' v∧Ext M w M' w'∧A8 M0 w0 S (post x++rs) M' w'
def VD {α:Type} (M0:Av) (w0:World) (S:Nat→Prop) (rs:List As) (M1:Av) (w1:World) (C:α→Prop) (res:α→Pr) (post:α→List As) (e:Ending) (w':World):Prop:=∃v M' x,e= .returned v∧C x∧(res x).h M' w' v∧Ext M1 w1 M' w'∧A8 M0 w0 S (post x++rs) M' w'
section
variable {P:Program} {L:Lg P} {n:Fm} {fz:Nat} {E:Env} {M0:Av} {w0:World} {S:Nat→Prop} {rs:List As} {α:Type} {pre:List As} {C:α→Prop} {res:α→Pr} {post:α→List As} {M1:Av} {w1:World} {g:Func} {o:Oper} {r:List Oper} {ops:Array Oper}
theorem Qd.of {f : FuncId} {c : Code} {ps : List Pr} (hf : P.funcs[f]? = some g) (hb : g.body = some c) (hname : (g.name == "runtime.NumGoroutine") = false) (hlen : ps.length ≤ g.ntmps)
  (h:∀M0 w0 S rs M1 w1,Tr (jI P) g.ntmps (Kz 0 ps) (Hp M0 w0 S (pre++At M1 w1::rs)) c (bodyPost P g (VD M0 w0 S rs M1 w1 C res post))):Qd P f ps pre C res post:=by
 refine ⟨⟨g,hf,hname,by rw [hb];rfl⟩,fun M0 w0 S rs M w vs hI hv=> ?_⟩
 refine calls_of_wp hf hb (h M0 w0 S rs M w _ _ ⟨M,?_,rfl,Gv hv,?_⟩)
 ·
  have:=hv.length
  simp [this];omega
 · exact A8.perm List.perm_middle.symm (A8.J8 hI (r:=At M w) rfl (Ext.refl _ _))
theorem A8.Yt {M:Av} {w:World} {f:FuncId} {args:List Pr} {rest:List As} (hf:Qd P f args pre C res post) (hp:rs.Perm (pre++rest)) (hI:A8 M0 w0 S rs M w) {vs:List Value} (hv:HL M w args vs):
  Calls P f vs.toArray w fun e w'=>∃v M' x,e= .returned v∧C x∧(res x).h M' w' v∧Ext M w M' w'∧A8 M0 w0 S (post x++rest) M' w':=hf.2 M0 w0 S rest M w vs (A8.perm hp hI) hv
theorem TO.Yt {Q:Exit→Act→World→Prop} {f:FuncId} {xs:Array Operand} {ts:Array TypeId} {ps:List Pr} (rest:List As) {d:Nat} (hg:o.guard=none) (hd:o.dst=some d) (hn:d<n) (ho:o.op= .call { callee:= .value (.func f),args:=xs,argTypes:=ts }) (hf:Qd P f ps pre C res post)
  (hv:HF E xs.toList ps) (hp:rs.Perm (pre++rest)) (k:∀x,C x→TO P n ops r ((d,res x)::E) (Hp M0 w0 S (post x++rest)) Q):TO P n ops (o::r) E (Hp M0 w0 S rs) Q:=
 TO.Xh hg fun K M w a hsz hdf he hI hK=>by
  have hI:A8 M0 w0 S rs M w:=hI
  have h1:=HF.FX (o:=o) (CG he) (xs:=xs.toList) (fun x hx=>by simp [ho,Op.operands,Call.operands];exact .inr (by simpa using hx)) hv
  have hrun:(execOp a.eval o).run P w= .ok (.enter f (xs.toList.map a.eval).toArray) w:=by
   simp [execOp,ho,resolve,Deferred.ofValue,Act.eval,invoke,FY hf.1,IA xs]
  unfold Oper.wp
  rw [hrun]
  refine (A8.Yt hf hp hI h1).mono ?_
  rintro e w' ⟨v,M',x,rfl,hC,h2,h3,h4⟩
  refine hK _ _ _ _ (k x hC) ⟨M',by rw [B9];exact hsz,by rw [put_defers];exact hdf,?_,h4⟩
  intro s q hq
  simp only [List.lookup] at hq
  by_cases hs:s=d
  · subst hs;simp at hq;subst hq;rw [hd,Bz (by rw [hsz];exact hn)];exact h2
  · rw [show (s==d)=false by simpa using hs] at hq;rw [hd,Bg hs];exact q.st _ _ _ _ _ h3 (he s q hq)
theorem vV {l:List As} {M:Av} {w:World} (h:A8 M0 w0 S (l++At M1 w1::rs) M w):Ext M1 w1 M w∧A8 M0 w0 S (l++rs) M w:=
 ⟨(h.hold (At M1 w1) (by simp)).1,(A8.perm List.perm_middle h).O4⟩
end
section
variable {P:Program} {L:Lg P} {n:Fm} {fz:Nat} {E:Env} {M0:Av} {w0:World} {S:Nat→Prop} {rs:List As} {o:Oper}
def kM:Value→Option Nat
 | .slice (some a) _ (_+1)=>some a.block
 |_=>none
def CN (e:TypeId) (sz:Nat) (rows:List (List Pr)) (v:Value):As where
 blk:=kM v
 new:=true
 h M w:=(rows=[]∧∃A,v= .slice A 0 0)∨(∃(b cap:Nat) (spare:List Value),v= .slice (some ⟨b,0,none⟩) rows.length (cap+1)∧rows.length≤cap+1∧cap+1≤maxLen∧spare.length=(cap+1-rows.length)*sz∧(AE true b e (rows.flatten++spare.map is)).h M w)
 st M w M' w' he hk h:=by
  rcases h with h|⟨b,cap,spare,rfl,h1,h2,h3,h4⟩
  · exact .inl h
  · exact .inr ⟨b,cap,spare,rfl,h1,h2,h3,(AE true b e _).st _ _ _ _ he hk h4⟩
theorem A0 {α:Type} {l:List α} {j:Nat} {x:α} (h:l[j]? =some x):j<l.length:=by
 rcases Nat.lt_or_ge j l.length with h'|h'
 · exact h'
 · rw [List.getElem?_eq_none h'] at h;cases h
theorem A8.blank {M:Av} {w:World} {j:Nat} {r:As} (h:A8 M0 w0 S rs M w) (hj:rs[j]? =some r):A8 M0 w0 S (rs.set j CD) M w:=
 A8.perm (J7 (A0 hj)) ((A8.perm (It hj) h).O4.J8 (r:=CD) rfl trivial)
theorem Te (sz:Nat) (A:Option Addr) (M:Av) (w:World):(slice sz []).h M w (.slice A 0 0):=⟨A,0,rfl,Nat.le_refl _,Nat.zero_le _,fun _=>rfl,fun i row h=>by simp at h⟩
theorem A8.qD {M:Av} {w:World} {sz:Nat} {e:TypeId} {rows:List (List Pr)} {v:Value} {j:Nat} (h:A8 M0 w0 S rs M w) (hj:rs[j]? =some (CN e sz rows v)) (hl:∀r∈rows,r.length=sz):
  ∃M',Ext M w M' w∧A8 M0 w0 S (rs.set j CD) M' w∧(slice sz rows).h M' w v:=by
 have hjl:=A0 hj
 rcases (h.hold _ (List.mem_of_getElem? hj)).1 with ⟨rfl,A,rfl⟩|⟨b,cap,spare,rfl,hnc,hcm,hsp,Yo⟩
 · exact ⟨M,Ext.refl _ _,h.blank hj,Te sz A M w⟩
 ·
  have hC:=h.Cm (r':=AE true b e (rows.flatten++spare.map is)) hj rfl rfl Yo
  obtain ⟨M',h1,h2,h3⟩:=A8.frz hC (List.getElem?_set_self hjl) hl hnc hcm (by rw [List.length_map];exact hsp)
  have h4:=h2.blank (j:=j) (by rw [List.set_set];exact List.getElem?_set_self hjl)
  rw [List.set_set,List.set_set] at h4
  exact ⟨M',h1,h4,h3⟩
theorem HL.set {M:Av} {w:World} {ps:List Pr} {vs:List Value} {k:Nat} {p q:Pr} (h:HL M w ps vs) (hk:ps[k]? =some p) (hq:∀u,p.h M w u→q.h M w u):HL M w (ps.set k q) vs:=by
 refine U_ (by rw [h.length];simp) fun k' p' hk'=> ?_
 rw [List.getElem?_set] at hk'
 split at hk'
 ·
  rename_i e1
  subst e1
  split at hk'
  ·
   obtain ⟨u,hu,jJ⟩:=h.at_ k p hk
   simp at hk';subst hk'
   exact ⟨u,hu,hq u jJ⟩
  · cases hk'
 · exact h.at_ k' p' hk'
theorem A8.Lv {M:Av} {w:World} {i j k sz b:Nat} {new:Bool} {T e:TypeId} {ps:List Pr} {rows:List (List Pr)} {v:Value} (h:A8 M0 w0 S rs M w) (hi:rs[i]? =some (AE new b T ps)) (hj:rs[j]? =some (CN e sz rows v)) (hij:j≠i) (hk:ps[k]? =some (is v)) (hl:∀r∈rows,r.length=sz):
  ∃M',Ext M w M' w∧A8 M0 w0 S ((rs.set j CD).set i (AE new b T (ps.set k (slice sz rows)))) M' w:=by
 obtain ⟨M',h1,h2,h3⟩:=h.qD hj hl
 have hi':(rs.set j CD)[i]? =some (AE new b T ps):=by rw [List.getElem?_set_ne hij];exact hi
 refine ⟨M',h1,h2.Cm hi' rfl rfl ?_⟩
 obtain ⟨g1,cs,g2,g3,g4⟩:=(h2.hold _ (List.mem_of_getElem? hi')).1
 exact ⟨g1,cs,g2,g3.set hk (fun u hu=>by rw [show u=v from hu];exact h3),g4⟩
def part (sz:Nat) (v:Value) (k:Nat):Pr where
 h _ _ u:=∃a m c,v= .slice a m c∧k≤m∧u= .slice (if c=k then a else a.map fun x=>x.add (k*sz)) (m-k) (c-k)
 st _M _w _M' _w' _v _ h:=h
instance qE (sz:Nat) (v:Value) (k:Nat):One (part sz v k):=⟨by rintro M w u ⟨a,m,c,h1,h2,rfl⟩;exact ⟨rfl,rfl⟩⟩
theorem C2.frz {f:FuncId} {args:List Pr} {e:TypeId} {sz m:Nat} {rows:List (List Pr)} {R:As} (hl:∀r∈rows,r.length=sz) (h:C2 P f args (lens m) R (fun v=>Bb e sz rows v)):C2 P f args (slice sz rows) R (fun _=>CD):=by
 refine ⟨h.1,fun M0 w0 S rs M w vs hI hv=>(h.2 M0 w0 S rs M w vs hI hv).mono ?_⟩
 rintro e' w' ⟨v,M',rfl,h2,h3,h4⟩
 obtain ⟨M2,j1,j2,j3⟩:=A8.dj (j:=0) h4 rfl hl
 exact ⟨v,M2,rfl,j3,h3.trans j1,j2.blank (j:=0) rfl⟩
def elp (sz:Nat) (v:Value) (i o:Nat):Pr where
 h _ _ u:=∃a m c,v= .slice (some a) m c∧u= .pointer (some (a.add (i*sz+o)))
 st _M _w _M' _w' _v _ h:=h
instance tS (sz:Nat) (v:Value) (k o:Nat):One (elp sz v k o):=⟨by rintro M w u ⟨a,m,c,h1,rfl⟩;exact ⟨rfl,rfl⟩⟩
theorem Tf {t e:TypeId} {x y:Operand} {k:IntKind} {l:Int} {sz j:Nat} {T:TypeId} {rows:List (List Pr)} {v:Value} (ho:o.op= .indexAddr t x y) (ht:P.underlying t=some (.slice e)) (hz:Ax P e=some sz) (hx:VL E x (is v)) (hy:VL E y (is (.int k l))) (h0:0≤l) (hl:l<rows.length):
  ME P M0 w0 S j (SR.c (CN T sz rows v)) o E (elp sz v l.toNat 0):=by
 intro M w a rs he hI hj
 have h1:a.eval x=v:=hx.ev he (by simp [ho,Op.operands])
 have h3:a.eval y= .int k l:=hy.ev he (by simp [ho,Op.operands])
 have hj':rs[j]? =some (CN T sz rows v):=hj
 rcases (hI.hold _ (List.mem_of_getElem? hj')).1 with ⟨rfl,A,hv⟩|⟨b,cap,spare,hv,hnc,hcm,hsp,Yo⟩
 · simp at hl;omega
 ·
  have hrun:(execOp a.eval o).run P w= .ok (.value (.pointer (some ((⟨b,0,none⟩:Addr).add (l.toNat*sz))))) w:=by
   simp [execOp,ho,h1,h3,hv,Instr.indexAt,asIntOf,run_underlying ht,Cl hz,h0,hl]
  rw [hrun]
  exact ⟨⟨_,_,_,hv,rfl⟩,Below.refl _ _⟩
theorem Rt {sz:Nat}:∀{rows:List (List Pr)} {i:Nat} {row:List Pr} {o:Nat} {qs S:List Pr},(∀r∈rows,r.length=sz)→rows[i]? =some row→o+qs.length≤sz→
  (rows.flatten++S).take (i*sz+o)++qs++(rows.flatten++S).drop (i*sz+o+qs.length)=(rows.set i (row.take o++qs++row.drop (o+qs.length))).flatten++S
 |[],_,_,_,_,_,_,h,_=>by simp at h
 |a::l,0,row,o,qs,S,hl,h,ho=>by
  simp at h;subst h
  have h1:=hl a (by simp)
  rw [List.set_cons_zero,List.flatten_cons,List.flatten_cons,Nat.zero_mul,Nat.zero_add,List.append_assoc a,List.take_append_of_le_length (by omega),List.drop_append_of_le_length (by omega)]
  simp
 |a::l,i+1,row,o,qs,S,hl,h,ho=>by
  have h1:=hl a (by simp)
  have ih:=Rt (S:=S) (fun r hr=>hl r (List.mem_cons_of_mem _ hr)) (i:=i) (row:=row) (o:=o) (qs:=qs) (by simpa using h) ho
  rw [List.set_cons_succ, List.flatten_cons, List.flatten_cons, List.append_assoc a, List.append_assoc a, ← ih, List.take_append, List.drop_append, List.take_of_length_le (by rw [h1, Nat.succ_mul]; omega), List.drop_of_length_le (by rw [h1, Nat.succ_mul]; omega),
   show (i+1)*sz+o-a.length=i*sz+o by rw [h1,Nat.succ_mul];omega,show (i+1)*sz+o+qs.length-a.length=i*sz+o+qs.length by rw [h1,Nat.succ_mul];omega]
  simp
theorem Nd {t:TypeId} {x y:Operand} {sz j i q m:Nat} {T:TypeId} {rows Al:List (List Pr)} {row qs:List Pr} {v:Value} (hg:o.guard=none) (ho:o.op= .store t x y) (hx:VL E x (elp sz v i q)) (hy:VL E y (DF qs)) (hz:Ax P t=some m) (hm:qs.length=m)
  (hl:∀r∈rows,r.length=sz) (hi:rows[i]? =some row) (hq:q+m≤sz) (hps:rows.set i (row.take q++qs++row.drop (q+m))=Al):Dn P M0 w0 S n j (SR.c (CN T sz rows v)) (SR.c (CN T sz Al v)) o E any:=by
 refine ⟨hg,fun M w a rs hsz he hI hj=> ?_⟩
 obtain ⟨a0,m0,c0,gl,h1⟩:=hx.ev he (show x∈o.op.operands.toList by simp [ho,Op.operands])
 obtain ⟨h2,h3⟩:=hy.ev he (show y∈o.op.operands.toList by simp [ho,Op.operands])
 have hj':rs[j]? =some (CN T sz rows v):=hj
 have hjl:=A0 hj'
 rcases (hI.hold _ (List.mem_of_getElem? hj')).1 with ⟨rfl,A,hv⟩|⟨b,cap,spare,hv,hnc,hcm,hsp,Yo⟩
 · simp at hi
 ·
  subst hv
  injection gl with e1 e2 e3
  injection e1 with e1
  subst e1
  have hC:=hI.Cm (r':=AE true b T (rows.flatten++spare.map is)) hj' rfl rfl Yo
  have hjC:(rs.set j (AE true b T (rows.flatten++spare.map is)))[j]? =some (AE true b T (rows.flatten++spare.map is)):=List.getElem?_set_self hjl
  obtain ⟨_,cs,h4,h5,h6⟩:=Yo
  have n7:=h5.length
  have gb:=h2.length
  have FF:=A0 hi
  have hfl:=C4 hl
  rw [List.length_append,hfl,List.length_map] at n7
  have hle:(i+1)*sz≤rows.length*sz:=Nat.mul_le_mul_right sz FF
  rw [Nat.succ_mul] at hle
  have hcells:(a.eval y).cells.size=m:=by rw [←hm,←gb];simp
  have hrun:(storeCells ((⟨b,0,none⟩:Addr).add (i*sz+q)) (a.eval y).cells.toList 0).run P w= .ok () (w.setRow b (cs.take (i*sz+q)++(a.eval y).cells.toList++cs.drop (i*sz+q+m)).toArray):=by
   have:=run_storeCells_at (P:=P) b (i*sz+q) T (a.eval y).cells.toList 0 cs.toArray w h4 (by simp;omega) h3
   rw [Ft,Nat.zero_add]
   simpa [hcells] using this
  have Fu:(execOp a.eval o).run P w= .ok .skip (w.setRow b (cs.take (i*sz+q)++(a.eval y).cells.toList++cs.drop (i*sz+q+m)).toArray):=by
   simp [execOp,ho,h1,Instr.storeAt,Instr.sureAddr,storeVar,Cl hz,hcells,hrun]
  rw [Fu]
  have hfs:=Rt (S:=spare.map is) hl hi (o:=q) (qs:=qs) (by omega)
  rw [hm,hps] at hfs
  obtain ⟨h7, h8⟩ := A8.write (qs := Al.flatten ++ spare.map is) (cs := cs.take (i * sz + q) ++ (a.eval y).cells.toList ++ cs.drop (i * sz + q + m)) hC hjC (by rw [← hfs]; exact (((h5.take (i * sz + q)).app h2)).app (h5.drop (i * sz + q + m)))
   (fun c hc=>by
    simp only [List.mem_append] at hc
    rcases hc with (hc|hc)|hc
    · exact h6 c (List.mem_of_mem_take hc)
    · exact h3 c hc
    · exact h6 c (List.mem_of_mem_drop hc))
  rw [List.set_set] at h7
  refine ⟨M,trivial,h8,?_⟩
  have hlen:Al.length=rows.length:=by rw [←hps,List.length_set]
  have h9:=h7.Cm (r':=CN T sz Al (.slice (some ⟨b,0,none⟩) rows.length (cap+1))) (List.getElem?_set_self hjl) rfl rfl (.inr ⟨b,cap,spare,by rw [hlen],by rw [hlen];exact hnc,hcm,by rw [hlen];exact hsp,(h7.hold _ (List.mem_of_getElem? (List.getElem?_set_self hjl))).1⟩)
  rw [List.set_set] at h9
  exact h9
theorem A8.iO:∀{l:List As} {M:Av} {w:World},A8 M0 w0 S (l++rs) M w→A8 M0 w0 S rs M w
 |[],_,_,h=>h
 |_::l,_,_,h=>A8.iO (l:=l) h.O4
end
section
variable {P:Program} {L:Lg P} {E:Env} {I:CT} {o:Oper}
section
variable {n:Fm} {fz:Nat} {M0:Av} {w0:World} {S:Nat→Prop}
end
end
def allI (p:Nat→Bool) (n:Nat):Bool:=(List.range n).all p
theorem Bv {p:Nat→Bool} {n:Nat}:allI p n=true↔∀j,j<n→p j=true:=by unfold allI;simp
theorem Yu {p:Nat→Bool} {n:Nat} (h:∀j,j<n→p j=true):allI p n=true:=Bv.2 h
theorem Nf {p:Nat→Bool} {n k:Nat} (hk:k<n) (h:p k=false):allI p n=false:=by
 rw [Bool.eq_false_iff];intro h';rw [Bv.1 h' k hk] at h;cases h
theorem Dc {p:Nat→Bool} {k:Nat} (h:∀j,j<k→p j=true) (hk:p k=true):∀j,j<k+1→p j=true:=by
 intro j hj
 by_cases e:j=k
 · subst e;exact hk
 · exact h j (by omega)
section
variable {P:Program} {L:Lg P} {n:Fm} {fz:Nat} {I:CT}
def qF (P:Program) (I':CT) (M:Av) (w:World) (p:Pr):Result Next→Prop
 | .ok (.value v) w'=>∃M',p.h M' w' v∧Ext M w M' w'∧I'.h M' w'
 | .ok .skip w'=>∃M',p.h M' w' undef∧Ext M w M' w'∧I'.h M' w'
 | .ok (.enter f args) w'=>Calls P f args w' fun e w''=>∃v M',e= .returned v∧p.h M' w'' v∧Ext M w M' w''∧I'.h M' w''
 |_=>False
def Yv (P:Program) (n:Fm) (I I':CT) (o:Oper) (E:Env) (p:Pr):Prop:=o.guard=none∧∀M w (a:Act),a.tmps.size=n.sz→CL M w E o a→I.h M w→qF P I' M w p ((execOp a.eval o).run P w)
def PM (P:Program) (n:Fm) (I:CT) (ops:Array Oper):Nat→List Oper→Env→(CT→Env→Prop)→Prop
 |_,[],_,_=>False
 |0,o::r,E,K=>∃p I',Yv P n I I' o E p∧(∀d,o.dst=some d→d<n)∧Ch P n I' ops r (upd o p E) (K I')
 |c+1,o::r,E,K=>∃p,X0 P I ops o E p∧(∀d,o.dst=some d→d<n)∧PM P n I ops c r (upd o p E) K
theorem PM.op {ops:Array Oper} {o:Oper} {r:List Oper} {E:Env} {K:CT→Env→Prop} {d c:Nat} {p:Pr} (hg:o.guard=none) (hd:o.dst=some d) (hn:d<n) (h:Ac P I o E p)
  (k:PM P n I ops c r ((d,p)::E) K):PM P n I ops (c+1) (o::r) E K:=
 ⟨p,by unfold X0;rw [hg];exact h,fun d' hd'=>by rw [hd] at hd';cases hd';exact hn,by unfold upd;rw [hd];exact k⟩
theorem PM.turn {ops:Array Oper} {o:Oper} {r:List Oper} {E:Env} {K:CT→Env→Prop} {d:Nat} {p:Pr} (I':CT) (hd:o.dst=some d) (hn:d<n) (h:Yv P n I I' o E p)
  (k:Ch P n I' ops r ((d,p)::E) (K I')):PM P n I ops 0 (o::r) E K:=
 ⟨p,I',h,fun d' hd'=>by rw [hd] at hd';cases hd';exact hn,by unfold upd;rw [hd];exact k⟩
def Yw (P:Program) (f:FuncId) (args:List Pr) (pre:List As) (res:Pr) (post:List As):Prop:=Qd (α:=Unit) P f args pre (fun _=>True) (fun _=>res) (fun _=>post)
section
variable {M0:Av} {w0:World} {S:Nat→Prop} {rs:List As} {E:Env} {o:Oper} {g:Func} {M1:Av} {w1:World}
theorem Yw.of {f : FuncId} {c : Code} {ps : List Pr} {pre post : List As} {res : Pr} (hf : P.funcs[f]? = some g) (hb : g.body = some c) (hname : (g.name == "runtime.NumGoroutine") = false) (hlen : ps.length ≤ g.ntmps)
  (h:∀M0 w0 S rs M1 w1,Tr (jI P) g.ntmps (Kz 0 ps) (Hp M0 w0 S (pre++At M1 w1::rs)) c (bodyPost P g (VD M0 w0 S rs M1 w1 (fun _:Unit=>True) (fun _=>res) (fun _=>post)))):Yw P f ps pre res post:=
 Qd.of hf hb hname hlen h
theorem C2.pure {f:FuncId} {args:List Pr} {res:Pr} {R':Value→As} (h:C2 P f args res CD R'):Az P f args res:=by
 refine ⟨h.1,fun M w vs hb hv=> ?_⟩
 refine (h.2 M w Eo [] M w vs ((A8.begin hb).J8 (r:=CD) rfl trivial) hv).mono ?_
 rintro e w' ⟨v,M',rfl,h2,h3,h4⟩
 exact ⟨v,rfl,res.st _ _ _ _ _ (Ext.less h4.m) h2,h4.below⟩
end
end
section
variable {P:Program} {L:Lg P} {n:Fm} {fz:Nat} {E:Env} {M0:Av} {w0:World} {S:Nat→Prop} {rs:List As} {o:Oper}
def qG (b off m:Nat):Pr where
 h _ _ u:=∃o c,u= .slice (some ⟨b,o,none⟩) m c∧(0<m→o=off)
 st _M _w _M' _w' _v _ h:=h
instance mZ (b off m:Nat):One (qG b off m):=⟨by rintro M w u ⟨o,c,rfl,_⟩;exact ⟨rfl,rfl⟩⟩
end
section
variable {P:Program} {L:Lg P} {n:Fm} {fz:Nat} {E:Env} {M0:Av} {w0:World} {S:Nat→Prop} {rs:List As} {o:Oper}
end
section
variable {P:Program} {L:Lg P} {n:Fm} {fz:Nat} {E:Env} {M0:Av} {w0:World} {S:Nat→Prop} {rs:List As}
theorem St.Lv {i j k sz b:Nat} {new:Bool} {T e:TypeId} {ps:List Pr} {rows:List (List Pr)} {v:Value} {p:Pr} (hi:rs[i]? =some (AE new b T ps)) (hj:rs[j]? =some (CN e sz rows v)) (hij:j≠i) (hk:ps[k]? =some p) (hp:Pr.le p (is v)) (hl:∀r∈rows,r.length=sz) {a:Act} {w:World} (h:St n E (Hp M0 w0 S rs) a w):
  St n E (Hp M0 w0 S ((rs.set j CD).set i (AE new b T (ps.set k (slice sz rows))))) a w:=by
 obtain ⟨M,h1,h2,h3,h4⟩:=h
 have h4:A8 M0 w0 S rs M w:=h4
 have hi':(rs.set j (CN e sz rows v))[i]? =some (AE new b T ps):=by rw [List.getElem?_set_ne hij];exact hi
 obtain ⟨M',g1,g2,g3⟩:=h4.qD hj hl
 have gi:(rs.set j CD)[i]? =some (AE new b T ps):=by rw [List.getElem?_set_ne hij];exact hi
 refine ⟨M',h1,h2,fun s q hq=>q.st _ _ _ _ _ g1 (h3 s q hq),g2.Cm gi rfl rfl ?_⟩
 obtain ⟨c1,cs,c2,c3,c4⟩:=(g2.hold _ (List.mem_of_getElem? gi)).1
 exact ⟨c1,cs,c2,c3.set hk (fun u hu=>by rw [show u=v from hp _ _ _ hu];exact g3),c4⟩
theorem Tr.Lv {Q:Exit→Act→World→Prop} {c:Code} (i j k:Nat) {sz b:Nat} {new:Bool} {T e:TypeId} {ps:List Pr} {rows:List (List Pr)} {v:Value} {p:Pr} (hi:rs[i]? =some (AE new b T ps)) (hj:rs[j]? =some (CN e sz rows v)) (hij:j≠i) (hk:ps[k]? =some p) (hp:Pr.le p (is v)) (hl:∀r∈rows,r.length=sz)
  (kk:Tr L n E (Hp M0 w0 S ((rs.set j CD).set i (AE new b T (ps.set k (slice sz rows))))) c Q):Tr L n E (Hp M0 w0 S rs) c Q:=Tr.conv (fun _ _ hs=>hs.Lv hi hj hij hk hp hl) kk
end
section
variable {P:Program} {L:Lg P} {n:Fm} {fz:Nat} {E:Env} {M0:Av} {w0:World} {S:Nat→Prop} {rs:List As} {o:Oper} {g:Func} {M1:Av} {w1:World}
theorem Row.hd {M:Av} {w:World} {ad:Addr} {p q:Pr} {ps:List Pr} (h:Row M w ad 0 (p::ps)) (hq:∀u,p.h M w u→q.h M w u):Row M w ad 0 (q::ps):=by
 intro j r hr
 cases j with
 |zero=>
  simp at hr;subst hr
  obtain ⟨u,h1,h2,h3,h4⟩:=h 0 p rfl
  exact ⟨u,h1,h2,h3,hq u h4⟩
 |succ j=>exact h (j+1) r (by simpa using hr)
theorem TO.re {Q:Exit→Act→World→Prop} {ops:Array Oper} {l:List Oper} {I:CT} (s:Nat) {q:Pr} (p:Pr) (hs:E.lookup s=some q) (hl:Pr.le q p) (k:TO P n ops l ((s,p)::E) I Q):TO P n ops l E I Q:=by
 intro m hm a w hst
 refine k m hm a w ?_
 obtain ⟨M,h1,h2,he,h4⟩:=hst
 refine ⟨M,h1,h2,fun s' r hr=> ?_,h4⟩
 simp only [List.lookup] at hr
 split at hr
 ·
  rename_i e1
  have:s'=s:=by simpa using e1
  subst this
  simp only [Option.some.injEq] at hr
  subst hr
  exact hl _ _ _ (he _ _ hs)
 · exact he _ _ hr
theorem Fin.Yx {Q:Exit→Act→World→Prop} {x:Exit} {r r':As} (k:Fin n E (Hp M0 w0 S (r'::r::rs)) Q x):Fin n E (Hp M0 w0 S (r::r'::rs)) Q x:=
 Fin.conv (fun _ _ ⟨M,h1,h2,h3,h4⟩=>⟨M,h1,h2,h3,A8.perm (List.Perm.swap _ _ _) h4⟩) k
def Tg (P:Program) (f:FuncId) (args:List Pr) (res:Value→Pr) (post:Value→List As):Prop:=Qd (α:=Value) P f args [] (fun _=>True) res post
theorem Tg.of {f : FuncId} {c : Code} {ps : List Pr} {res : Value → Pr} {post : Value → List As} (hf : P.funcs[f]? = some g) (hb : g.body = some c) (hname : (g.name == "runtime.NumGoroutine") = false) (hlen : ps.length ≤ g.ntmps)
  (h:∀M0 w0 S rs M1 w1,Tr (jI P) g.ntmps (Kz 0 ps) (Hp M0 w0 S (At M1 w1::rs)) c (bodyPost P g (VD M0 w0 S rs M1 w1 (fun _:Value=>True) res post))):Tg P f ps res post:=
 Qd.of hf hb hname hlen h
theorem Fin.qH {rv:ResultVar} {q:Pr} {res:Value→Pr} {post:Value→List As} {rs':List As} (v:Value) (dr:List As) (hr:g.results= #[rv]) (h:AP P E rs' rv q) (hl:Pr.le q (res v)) (hp:rs'.Perm (dr++(post v++At M1 w1::rs))):
  Fin ⟨fz,[]⟩ E (Hp M0 w0 S rs') (bodyPost P g (VD M0 w0 S rs M1 w1 (fun _:Value=>True) res post)) .ret:=by
 rintro a w ⟨M,_,hd,he,hi⟩
 have hi:A8 M0 w0 S rs' M w:=hi
 obtain ⟨u,hu,hp'⟩:=h M w a he (fun q hq=>(hi.hold q hq).1)
 obtain ⟨h1,h2⟩:=vV (A8.iO (A8.perm hp hi))
 exact ⟨hd,u,results1 hr hu,_,M,v,rfl,trivial,hl _ _ _ hp',h1,h2⟩
theorem TO.Yy {Q:Exit→Act→World→Prop} {ops:Array Oper} {r:List Oper} {f:FuncId} {xs:Array Operand} {ts:Array TypeId} {ps:List Pr} {res:Value→Pr} {post:Value→List As} {d:Nat} (hg:o.guard=none) (hd:o.dst=some d) (hn:d<n) (ho:o.op= .call { callee:= .value (.func f),args:=xs,argTypes:=ts }) (hf:Tg P f ps res post)
  (hv:HF E xs.toList ps) (k:∀v,TO P n ops r ((d,res v)::E) (Hp M0 w0 S (post v++rs)) Q):TO P n ops (o::r) E (Hp M0 w0 S rs) Q:=
 TO.Yt rs hg hd hn ho hf hv (List.Perm.refl _) fun v _=>k v
end
section
variable {P:Program} {L:Lg P} {n:Fm} {fz:Nat} {E:Env} {I:CT} {Q:Exit→Act→World→Prop} {ops:Array Oper} {o:Oper} {r:List Oper} {g j:Nat} {b want:Bool}
theorem TO.cases (g:Nat) {b:Bool} {l:List Oper} (_hb:E.lookup g=some (bool b)) (ht:b=true→TO P n ops l E I Q) (hf:b=false→TO P n ops l E I Q):TO P n ops l E I Q:=by
 cases b
 · exact hf rfl
 · exact ht rfl
theorem TO.qI (hg:o.guard=some (j,want)) (hj:(ops[j]?).bind (·.dst)=some g) (hb:E.lookup g=some (bool b)) (J0:b=want) (h:∀(K:Act→World→Prop) M w (a:Act),a.tmps.size=n.sz→a.defers=n.df→En M w E a→I.h M w→
  (∀E' I' a' w',TO P n ops r E' I' Q→St n E' I' a' w'→K a' w')→o.wp P a w K Q):TO P n ops (o::r) E I Q:=by
 intro k hl a w hs
 have h0:ops[k]? =some o:=by simpa using (hl 0).symm
 obtain ⟨M,hn,hd,he,hI⟩:=hs
 simp only [List.length_cons,List.range'_succ,wpS,h0]
 have hy:=HG (M:=M) (w:=w) (b:=some b) hj (he g _ hb)
 rw [GQ hg hy,if_pos (by simp [J0])]
 exact (h _ M w a hn hd he hI fun E' I' a' w' hT hst=>hT (k+1) (fun j=>by have:=hl (j+1);simpa [Nat.add_assoc,Nat.add_comm 1 j] using this) a' w' hst)
theorem TO.MM {d:Nat} {p:Pr} (hg:o.guard=some (j,want)) (hj:(ops[j]?).bind (·.dst)=some g) (hb:E.lookup g=some (bool b)) (J0:b=want) (hd:o.dst=some d) (hn:d<n) (h:Ac P I o E p) (k:TO P n ops r ((d,p)::E) I Q):TO P n ops (o::r) E I Q:=
 TO.qI hg hj hb J0 fun K M w a h1 h2 h3 h4 hK=>by
  refine Fo (h M w a (CG h3) h4) fun v w' hv hb'=>hK _ _ _ _ k ⟨M,?_,?_,?_,I.st _ _ _ hb' h4⟩
  · rw [B9];exact h1
  · rw [put_defers];exact h2
  ·
   have:=h3.put (o:=o) (p:=p) hb' hv (fun d' hd'=>by rw [hd] at hd';cases hd';rw [h1];exact hn)
   rw [show upd o p E=(d,p)::E by unfold upd;rw [hd]] at this;exact this
theorem TO.RL {d:Nat} (hg:o.guard=some (j,want)) (hj:(ops[j]?).bind (·.dst)=some g) (hb:E.lookup g=some (bool b)) (J0:b≠want) (hd:o.dst=some d) (hn:d<n) (kk:TO P n ops r ((d,is undef)::E) I Q):TO P n ops (o::r) E I Q:=by
 intro k hl a w hs
 have h0:ops[k]? =some o:=by simpa using (hl 0).symm
 obtain ⟨M,h1,h2,he,hI⟩:=hs
 simp only [List.length_cons,List.range'_succ,wpS,h0]
 have hy:=HG (M:=M) (w:=w) (b:=some b) hj (he g _ hb)
 rw [GQ hg hy,if_neg (by simp [J0])]
 refine kk (k+1) (fun j=>by have:=hl (j+1);simpa [Nat.add_assoc,Nat.add_comm 1 j] using this) _ w ⟨M,by rw [B9];exact h1,by rw [put_defers];exact h2,?_,hI⟩
 have:=he.put (o:=o) (p:=is undef) (v:=undef) (Below.refl w.heap.size w) rfl (fun d' hd'=>by rw [hd] at hd';cases hd';rw [h1];exact hn)
 rw [show upd o (is undef) E=(d,is undef)::E by unfold upd;rw [hd]] at this;exact this
variable {M0:Av} {w0:World} {S:Nat→Prop} {rs:List As}
theorem TO.qJ {d:Nat} {p:Pr} (i:Nat) {R:As} {R':As} (hg:o.guard=some (j,want)) (hj:(ops[j]?).bind (·.dst)=some g) (hb:E.lookup g=some (bool b)) (J0:b=want) (hR:rs[i]? =some R) (hd:o.dst=some d) (hn:d<n) (h:Dn P M0 w0 S n i (SR.c R) (SR.c R') { o with guard:=none } E p)
  (k:TO P n ops r ((d,p)::E) (Hp M0 w0 S (rs.set i R')) Q):TO P n ops (o::r) E (Hp M0 w0 S rs) Q:=
 TO.qI hg hj hb J0 fun K M w a hsz hdf he hI hK=>by
  have hw : ({ o with guard := none } : Oper).wp P a w K Q := J4 (h.2 M w a rs hsz (CG he) hI hR) fun v w' M' hv hx RJ => hK _ _ _ _ k ⟨M', by rw [B9]; exact hsz, by rw [put_defers]; exact hdf, by
   intro s q hq
   simp only [List.lookup] at hq
   by_cases hs:s=d
   · subst hs;simp at hq;subst hq;show p.h M' w' ((a.put o.dst v).tmps.getD s undef);rw [hd,Bz (by rw [hsz];exact hn)];exact hv
   · rw [show (s==d)=false by simpa using hs] at hq;show q.h M' w' ((a.put o.dst v).tmps.getD s undef);rw [hd,Bg hs];exact q.st _ _ _ _ _ hx (he s q hq),RJ⟩
  exact hw
end
section
variable {P:Program} {L:Lg P} {E:Env} {I:CT} {o:Oper}
end
end Cp
