/-
  Part 2 of the texts that prove this claim, merged.
-/
import Derived.ChangeArms
import Derived.OpenShut
import Derived.ChangeSame
import Derived.RowKit
import Derived.ProofKit
import Derived.Laws.MakeOwn
import Derived.Test.YtppeeogffbpcbaaGreatProg
import Derived.KernelRfl
import Derived.Lib.ConvBytes
import Derived.Lib.Bytealg
import Derived.Laws.StructEq
import Derived.Laws.Externs
import Derived.Lib.AtoiErrMem
import Derived.Laws.IdiomRangeMap
import Derived.Sort.LotA
import Derived.Sort.LotB
import Derived.Sort.LotC
import Derived.Lib.AppendZeros
import Derived.Lib.AppendZerosOnto
import Derived.Test.YtppeeogffbpcbaaGreatElDP1
set_option linter.all false
set_option maxRecDepth 40000
set_option maxHeartbeats 16000000
namespace Cp
open Go Go.RowKit Go.Great Go.ChangeShapes Go.WideShapes
def YU:Av:=fun _ _=>False
theorem dA (w:World):Bd YU w:=fun _ _ h=>h.elim
def Hq (P:Program) (t:TypeId) {α:Type} (ok:α→Prop) (f:α→List Pr):Prop:=
 ∀(H:Type) (enc:TypeId×Value→H) (w:World) (fuel:Nat) (cs:List Value) (x:DataW H×List MemPlace),DataW.trod enc P w 0 (fun _=>true) true fuel t cs=some x→∃a,ok a∧HL YU w (f a) cs∧∀c∈cs,c.oneCell'=true
theorem Hq.map {P:Program} {t:TypeId} {α β:Type} {ok:α→Prop} {f:α→List Pr} {ok':β→Prop} {f':β→List Pr} (h:Hq P t ok f) (g:α→β) (h1:∀a,ok a→ok' (g a)) (h2:∀a,f' (g a)=f a):Hq P t ok' f':=by
 intro H enc w fuel cs x hx
 obtain ⟨a,h3,h4,h5⟩:=h H enc w fuel cs x hx
 exact ⟨g a,h1 a h3,by rw [h2];exact h4,h5⟩
theorem B5 {P:Program} {t:TypeId} {k:IntKind} (ht:P.underlying t=some (.int k)):Hq P t (fun n:Int=>(Lit.int k n).wf=true) (fun n=>[is (.int k n)]):=by
 intro H enc w fuel cs x hx
 obtain ⟨n,rfl,_,hw⟩:=DataW.trod_int ht hx
 exact ⟨n,hw,⟨rfl,trivial⟩,by simp [Value.oneCell']⟩
theorem Rz {P:Program} {t:TypeId} (ht:P.underlying t=some .bool):Hq P t (fun _:Bool=>True) (fun b=>[bool b]):=by
 intro H enc w fuel cs x hx
 obtain ⟨n,rfl,_⟩:=DataW.trod_bool ht hx
 exact ⟨n,trivial,⟨rfl,trivial⟩,by simp [Value.oneCell']⟩
theorem HK {P:Program} {t:TypeId} (ht:P.underlying t=some .string):Hq P t (fun s:ByteArray=>s.size≤maxLen) (fun s=>[is (.string s)]):=by
 intro H enc w fuel cs x hx
 obtain ⟨n,rfl,_,h⟩:=DataW.trod_string ht hx
 exact ⟨n,h,⟨rfl,trivial⟩,by simp [Value.oneCell']⟩
theorem HL.len {M:Av} {w:World}:∀{ps:List Pr} {vs:List Value},HL M w ps vs→ps.length=vs.length
 |[],[],_=>rfl
 |p::ps,v::vs,h=>by simp [HL.len h.2]
 |[],_::_,h=>h.elim
 |_::_,[],h=>h.elim
theorem HL.nth {M:Av} {w:World}:∀{ps:List Pr} {vs:List Value} (j:Nat) (p:Pr),HL M w ps vs→ps[j]? =some p→∃v,vs[j]? =some v∧p.h M w v
 |p::ps,v::vs,0,q,h,hj=>by simp at hj;subst hj;exact ⟨v,rfl,h.1⟩
 |p::ps,v::vs,j+1,q,h,hj=>by simpa using HL.nth j q h.2 (by simpa using hj)
 |[],[],_,_,_,hj=>by simp at hj
 |[],_::_,_,_,h,_=>h.elim
 |_::_,[],_,_,h,_=>h.elim
theorem My {H:Type} {enc:TypeId×Value→H} {P:Program} {w:World} {e:TypeId} {α:Type} {ok:α→Prop} {f:α→List Pr} (he:Hq P e ok f) {sz:Nat} (hc:P.cellsOf e=sz) {a:Addr} {m:Nat}:
  ∀(len:Nat),(∀i,i<len→∃y,(w.cells? 0 (a.add (i*sz)) sz).bind (DataW.trod enc P w 0 (fun _=>true) true m e)=some y)→
   ∃l:List α,l.length=len∧(∀z∈l,ok z)∧∀(i:Nat) z,l[i]? =some z→(f z).length=sz∧Row YU w a (i*sz) (f z)
 |0,_=>⟨[],rfl,by simp,by simp⟩
 |len+1,h=>by
  obtain ⟨l,h1,h2,h3⟩:=My he hc len (fun i hi=>h i (by omega))
  obtain ⟨y,hy⟩:=h len (by omega)
  obtain ⟨cs,hcs,hy⟩:=Option.bind_eq_some_iff.1 hy
  obtain ⟨z,hz,hl,h1c⟩:=he H enc w m cs y hy
  obtain ⟨_,hlen,Mz⟩:=World.cells?_some hcs
  refine ⟨l++[z],by simp [h1],?_,fun i u hu=> ?_⟩
  ·
   intro u hu
   rcases List.mem_append.1 hu with hu|hu
   · exact h2 u hu
   · rw [List.mem_singleton.1 hu];exact hz
  ·
   rcases Nat.lt_trichotomy i len with hi|hi|hi
   ·
    rw [List.getElem?_append_left (by omega)] at hu
    exact h3 i u hu
   ·
    subst hi
    rw [List.getElem?_append_right (by omega),h1] at hu
    simp at hu;subst hu
    have hfl:(f z).length=sz:=by rw [hl.len,hlen]
    refine ⟨hfl,fun j p hp=> ?_⟩
    obtain ⟨v,hv,QN⟩:=hl.nth j p hp
    have hj:j<sz:=by
     rcases Nat.lt_or_ge j (f z).length with h'|h'
     · omega
     · rw [List.getElem?_eq_none h'] at hp;cases hp
    refine ⟨v,?_,fun hf=>hf,h1c v (List.mem_of_getElem? hv),QN⟩
    rw [←hv,←Mz j hj]
    rw [add_add]
   · rw [List.getElem?_eq_none (by simp [h1];omega)] at hu;cases hu
theorem Qb {P:Program} {t e:TypeId} {α:Type} {ok:α→Prop} {f:α→List Pr} {sz:Nat} (ht:P.underlying t=some (.slice e)) (hc:P.cellsOf e=sz) (he:Hq P e ok f):
  Hq P t (fun l:List α=>(∀z∈l,ok z)∧l.length≤maxLen) (fun l=>[slice sz (l.map f)]):=by
 intro H enc w fuel cs x hx
 rcases DataW.trod_slice ht hx with ⟨rfl,_⟩|⟨a,len,cap,elems,rest,n,rfl,rfl,_,_,hl,hm,hel,Mz,_⟩
 · exact ⟨[],⟨by simp,by simp⟩,⟨⟨none,0,rfl,by simp,by simp,fun _=>rfl,by simp⟩,trivial⟩,by simp [Value.oneCell']⟩
 ·
  obtain ⟨l,h1,h2,h3⟩:=My (H:=H) (enc:=enc) (w:=w) (a:=a) (m:=n) he hc len (fun i hi=>by
   have:=Mz i hi
   rw [hc] at this
   rw [this,List.getElem?_eq_getElem (by omega)]
   exact ⟨_,rfl⟩)
  refine ⟨l,⟨h2,by omega⟩,⟨⟨some a,cap,by simp [h1],by simp;omega,hm,by simp,fun i row hr=> ?_⟩,trivial⟩,by simp [Value.oneCell']⟩
  rw [List.getElem?_map] at hr
  cases hz:l[i]? with
  |none=>rw [hz] at hr;cases hr
  |some z=>
   rw [hz] at hr;simp at hr;subst hr
   obtain ⟨h4,h5⟩:=h3 i z hz
   exact ⟨h4,a,rfl,h5⟩
theorem JD {H:Type} {enc:TypeId×Value→H} {P:Program} (hl:laidOutB P=true) {W W':World} (hb:Below W.heap.size W W'):
  ∀{ts:List TypeId} {vs:List Value} {ds:List (DataW H)} {ps:List MemPlace},ts.all (fun t=>P.readableRec t&&decide (t<P.types.size))=true→DataW.TrodAll enc P W 0 (fun _=>true) true ts vs ds ps→(∀x∈ps,x.block<W.heap.size)→
   DataW.TrodAll enc P W' 0 (fun b=>decide (b<W.heap.size)) true ts vs ds ps
 |[],vs,ds,ps,_,h,_=>by
  obtain ⟨rfl,rfl,rfl⟩:=trodAll_nil h
  rfl
 |t::ts,vs,ds,ps,hr,h,hlt=>by
  obtain ⟨v,vs',d,ds',p,q,rfl,rfl,rfl,h1,h2⟩:=trodAll_cons h
  simp only [List.all_cons,Bool.and_eq_true,decide_eq_true_eq] at hr
  exact ⟨p,q,Below.trod hl hr.1.1 hr.1.2 h1 hb (fun x hx=>hlt x (List.mem_append_left _ hx)),JD hl hb (by simpa using hr.2) h2 (fun x hx=>hlt x (List.mem_append_right _ hx)),rfl⟩
theorem Vw {H:Type} {enc:TypeId×Value→H} {P:Program} {fn:Func} {s:ChangeSpec} {W W':World} {args:Array Value} {ds gs:List (DataW H)} {before p:List MemPlace} {tb:TypeId} (hl:laidOutB P=true)
  (hr:fn.params.toList.all (fun t=>P.readableRec t&&decide (t<P.types.size))=true) (hres:fn.resultTypes= #[tb]) (hb:P.underlying tb=some .bool) (hs:s.vars=[])
  (hA:DataW.TrodAll enc P W 0 (fun _=>true) true fn.params.toList args.toList ds p) (hp:before=p) (hW:DataW.Whole enc P fn.params.toList s.vars false W args.toList ds gs before)
  (hf:s.fn H (ds++gs)={ results:=[.lit (.bool true)],args:=ds }) (Vx:Below W.heap.size W W'):s.post enc P fn false true false false W args (.bool true) W':=by
 subst hp
 refine ⟨ds,gs,before,[],before,[],hW,?_,?_,?_,Vx.frame _,fun h=>by cases h⟩
 · rw [hf,hres];exact trodAll_mk1 (shut_bool hb _)
 · rw [hf];exact JD hl Vx hr hA (fun x hx=>by simpa using hW.lt x hx)
 · rw [hf,hs];rfl
end Cp
namespace Cp
open Go Go.RowKit Go.Great
section
variable {P:Program} {L:Lg P} {n:Fm} {fz:Nat} {E:Env} {I:Ca} {Q:Exit→Act→World→Prop}
theorem Tr.Qc {α0:Type} (K:Env) (hK:Cv E K) (F:α0→Env) (Ii:α0→Ca) (C:α0→Prop) (μ:α0→Nat) {c:Code} (It:α0)  (h0:C It) (hs:Cv E (F It)) (hI:∀M w,I.h M w→(Ii It).h M w)
  (round:∀x0,C x0→Tr L n (F x0++K) (Ii x0) c (Exit.then (fun a w=>∃Dv,(C Dv∧μ Dv<μ x0)∧St n (F Dv++K) (Ii Dv) a w) Q)):Tr L n E I (.loop c) Q:=
 Tr.LL K hK (fun y:α0=>F y) (fun y=>Ii y) (fun y=>C y) (fun y=>μ y) It h0 hs hI fun y hy=>
  Tr.post (round y hy) fun e a w h=>by
   cases e<;>first|exact h|(obtain ⟨Dv,h1,h2⟩:=h;exact ⟨Dv,h1,h2⟩)
theorem Fin.Lz {α0:Type} {E1:α0→Env} {I1:α0→Ca} {C:α0→Prop} (x0:α0)  (hC:C x0) (hs:Cv E (E1 x0)) (hI:∀M w,I.h M w→(I1 x0).h M w):
  Fin n E I (Exit.then (fun a w=>∃Dv,C Dv∧St n (E1 Dv) (I1 Dv) a w) Q) .normal:=fun _ _ hst=>⟨x0,hC,hst.sub hs hI⟩
theorem Tr.IK {α0 α1:Type} (K:Env) (hK:Cv E K) (F:α0→α1→Env) (Ii:α0→α1→Ca) (C:α0→α1→Prop) (μ:α0→α1→Nat) {c:Code} (It:α0) (J3:α1)  (h0:C It J3) (hs:Cv E (F It J3)) (hI:∀M w,I.h M w→(Ii It J3).h M w)
  (round:∀x0 x1,C x0 x1→Tr L n (F x0 x1++K) (Ii x0 x1) c (Exit.then (fun a w=>∃Dv Ee,(C Dv Ee∧μ Dv Ee<μ x0 x1)∧St n (F Dv Ee++K) (Ii Dv Ee) a w) Q)):Tr L n E I (.loop c) Q:=
 Tr.LL K hK (fun y:α0×α1=>F y.1 y.2) (fun y=>Ii y.1 y.2) (fun y=>C y.1 y.2) (fun y=>μ y.1 y.2) (It,J3) h0 hs hI fun y hy=>
  Tr.post (round y.1 y.2 hy) fun e a w h=>by
   cases e<;>first|exact h|(obtain ⟨Dv,Ee,h1,h2⟩:=h;exact ⟨(Dv,Ee),h1,h2⟩)
theorem Fin.J4 {α0 α1:Type} {E1:α0→α1→Env} {I1:α0→α1→Ca} {C:α0→α1→Prop} (x0:α0) (x1:α1)  (hC:C x0 x1) (hs:Cv E (E1 x0 x1)) (hI:∀M w,I.h M w→(I1 x0 x1).h M w):
  Fin n E I (Exit.then (fun a w=>∃Dv Ee,C Dv Ee∧St n (E1 Dv Ee) (I1 Dv Ee) a w) Q) .normal:=fun _ _ hst=>⟨x0,x1,hC,hst.sub hs hI⟩
theorem Tr.Qd {α0 α1:Type} (K:Env) (hK:Cv E K) (F:α0→α1→Value→Env) (Ii:α0→α1→Value→Ca) (C:α0→α1→Prop) (μ:α0→α1→Nat) {c:Code} (It:α0) (J3:α1) (Vy:Value) (h0:C It J3) (hs:Cv E (F It J3 Vy)) (hI:∀M w,I.h M w→(Ii It J3 Vy).h M w)
  (round:∀x0 x1 v0,C x0 x1→Tr L n (F x0 x1 v0++K) (Ii x0 x1 v0) c (Exit.then (fun a w=>∃Dv Ee M3,(C Dv Ee∧μ Dv Ee<μ x0 x1)∧St n (F Dv Ee M3++K) (Ii Dv Ee M3) a w) Q)):Tr L n E I (.loop c) Q:=
 Tr.LL K hK (fun y:α0×α1×Value=>F y.1 y.2.1 y.2.2) (fun y=>Ii y.1 y.2.1 y.2.2) (fun y=>C y.1 y.2.1) (fun y=>μ y.1 y.2.1) (It,J3,Vy) h0 hs hI fun y hy=>
  Tr.post (round y.1 y.2.1 y.2.2 hy) fun e a w h=>by
   cases e<;>first|exact h|(obtain ⟨Dv,Ee,M3,h1,h2⟩:=h;exact ⟨(Dv,Ee,M3),h1,h2⟩)
theorem Fin.Ds {α0 α1:Type} {E1:α0→α1→Value→Env} {I1:α0→α1→Value→Ca} {C:α0→α1→Prop} (x0:α0) (x1:α1) (v0:Value) (hC:C x0 x1) (hs:Cv E (E1 x0 x1 v0)) (hI:∀M w,I.h M w→(I1 x0 x1 v0).h M w):
  Fin n E I (Exit.then (fun a w=>∃Dv Ee M3,C Dv Ee∧St n (E1 Dv Ee M3) (I1 Dv Ee M3) a w) Q) .normal:=fun _ _ hst=>⟨x0,x1,v0,hC,hst.sub hs hI⟩
theorem Tr.Qe {α0 α1 α2:Type} (K:Env) (hK:Cv E K) (F:α0→α1→α2→Env) (Ii:α0→α1→α2→Ca) (C:α0→α1→α2→Prop) (μ:α0→α1→α2→Nat) {c:Code} (It:α0) (J3:α1) (PD:α2)  (h0:C It J3 PD) (hs:Cv E (F It J3 PD)) (hI:∀M w,I.h M w→(Ii It J3 PD).h M w)
  (round:∀x0 x1 x2,C x0 x1 x2→Tr L n (F x0 x1 x2++K) (Ii x0 x1 x2) c (Exit.then (fun a w=>∃Dv Ee Gs,(C Dv Ee Gs∧μ Dv Ee Gs<μ x0 x1 x2)∧St n (F Dv Ee Gs++K) (Ii Dv Ee Gs) a w) Q)):Tr L n E I (.loop c) Q:=
 Tr.LL K hK (fun y:α0×α1×α2=>F y.1 y.2.1 y.2.2) (fun y=>Ii y.1 y.2.1 y.2.2) (fun y=>C y.1 y.2.1 y.2.2) (fun y=>μ y.1 y.2.1 y.2.2) (It,J3,PD) h0 hs hI fun y hy=>
  Tr.post (round y.1 y.2.1 y.2.2 hy) fun e a w h=>by
   cases e<;>first|exact h|(obtain ⟨Dv,Ee,Gs,h1,h2⟩:=h;exact ⟨(Dv,Ee,Gs),h1,h2⟩)
theorem Fin.Gf {α0 α1 α2:Type} {E1:α0→α1→α2→Env} {I1:α0→α1→α2→Ca} {C:α0→α1→α2→Prop} (x0:α0) (x1:α1) (x2:α2)  (hC:C x0 x1 x2) (hs:Cv E (E1 x0 x1 x2)) (hI:∀M w,I.h M w→(I1 x0 x1 x2).h M w):
  Fin n E I (Exit.then (fun a w=>∃Dv Ee Gs,C Dv Ee Gs∧St n (E1 Dv Ee Gs) (I1 Dv Ee Gs) a w) Q) .normal:=fun _ _ hst=>⟨x0,x1,x2,hC,hst.sub hs hI⟩
theorem Tr.GC {α0 α1 α2:Type} (K:Env) (hK:Cv E K) (F:α0→α1→α2→Value→Env) (Ii:α0→α1→α2→Value→Ca) (C:α0→α1→α2→Prop) (μ:α0→α1→α2→Nat) {c:Code} (It:α0) (J3:α1) (PD:α2) (Vy:Value) (h0:C It J3 PD) (hs:Cv E (F It J3 PD Vy)) (hI:∀M w,I.h M w→(Ii It J3 PD Vy).h M w)
  (round:∀x0 x1 x2 v0,C x0 x1 x2→Tr L n (F x0 x1 x2 v0++K) (Ii x0 x1 x2 v0) c (Exit.then (fun a w=>∃Dv Ee Gs M3,(C Dv Ee Gs∧μ Dv Ee Gs<μ x0 x1 x2)∧St n (F Dv Ee Gs M3++K) (Ii Dv Ee Gs M3) a w) Q)):Tr L n E I (.loop c) Q:=
 Tr.LL K hK (fun y:α0×α1×α2×Value=>F y.1 y.2.1 y.2.2.1 y.2.2.2) (fun y=>Ii y.1 y.2.1 y.2.2.1 y.2.2.2) (fun y=>C y.1 y.2.1 y.2.2.1) (fun y=>μ y.1 y.2.1 y.2.2.1) (It,J3,PD,Vy) h0 hs hI fun y hy=>
  Tr.post (round y.1 y.2.1 y.2.2.1 y.2.2.2 hy) fun e a w h=>by
   cases e<;>first|exact h|(obtain ⟨Dv,Ee,Gs,M3,h1,h2⟩:=h;exact ⟨(Dv,Ee,Gs,M3),h1,h2⟩)
theorem Fin.D5 {α0 α1 α2:Type} {E1:α0→α1→α2→Value→Env} {I1:α0→α1→α2→Value→Ca} {C:α0→α1→α2→Prop} (x0:α0) (x1:α1) (x2:α2) (v0:Value) (hC:C x0 x1 x2) (hs:Cv E (E1 x0 x1 x2 v0)) (hI:∀M w,I.h M w→(I1 x0 x1 x2 v0).h M w):
  Fin n E I (Exit.then (fun a w=>∃Dv Ee Gs M3,C Dv Ee Gs∧St n (E1 Dv Ee Gs M3) (I1 Dv Ee Gs M3) a w) Q) .normal:=fun _ _ hst=>⟨x0,x1,x2,v0,hC,hst.sub hs hI⟩
theorem Tr.Vz {α0 α1 α2 α3:Type} (K:Env) (hK:Cv E K) (F:α0→α1→α2→α3→Env) (Ii:α0→α1→α2→α3→Ca) (C:α0→α1→α2→α3→Prop) (μ:α0→α1→α2→α3→Nat) {c:Code} (It:α0) (J3:α1) (PD:α2) (YV:α3)  (h0:C It J3 PD YV) (hs:Cv E (F It J3 PD YV)) (hI:∀M w,I.h M w→(Ii It J3 PD YV).h M w)
  (round:∀x0 x1 x2 x3,C x0 x1 x2 x3→Tr L n (F x0 x1 x2 x3++K) (Ii x0 x1 x2 x3) c (Exit.then (fun a w=>∃Dv Ee Gs N0,(C Dv Ee Gs N0∧μ Dv Ee Gs N0<μ x0 x1 x2 x3)∧St n (F Dv Ee Gs N0++K) (Ii Dv Ee Gs N0) a w) Q)):Tr L n E I (.loop c) Q:=
 Tr.LL K hK (fun y:α0×α1×α2×α3=>F y.1 y.2.1 y.2.2.1 y.2.2.2) (fun y=>Ii y.1 y.2.1 y.2.2.1 y.2.2.2) (fun y=>C y.1 y.2.1 y.2.2.1 y.2.2.2) (fun y=>μ y.1 y.2.1 y.2.2.1 y.2.2.2) (It,J3,PD,YV) h0 hs hI fun y hy=>
  Tr.post (round y.1 y.2.1 y.2.2.1 y.2.2.2 hy) fun e a w h=>by
   cases e<;>first|exact h|(obtain ⟨Dv,Ee,Gs,N0,h1,h2⟩:=h;exact ⟨(Dv,Ee,Gs,N0),h1,h2⟩)
theorem Fin.YW {α0 α1 α2 α3:Type} {E1:α0→α1→α2→α3→Env} {I1:α0→α1→α2→α3→Ca} {C:α0→α1→α2→α3→Prop} (x0:α0) (x1:α1) (x2:α2) (x3:α3)  (hC:C x0 x1 x2 x3) (hs:Cv E (E1 x0 x1 x2 x3)) (hI:∀M w,I.h M w→(I1 x0 x1 x2 x3).h M w):
  Fin n E I (Exit.then (fun a w=>∃Dv Ee Gs N0,C Dv Ee Gs N0∧St n (E1 Dv Ee Gs N0) (I1 Dv Ee Gs N0) a w) Q) .normal:=fun _ _ hst=>⟨x0,x1,x2,x3,hC,hst.sub hs hI⟩
theorem Tr.V0 {α0 α1 α2 α3:Type} (K:Env) (hK:Cv E K) (F:α0→α1→α2→α3→Value→Env) (Ii:α0→α1→α2→α3→Value→Ca) (C:α0→α1→α2→α3→Prop) (μ:α0→α1→α2→α3→Nat) {c:Code} (It:α0) (J3:α1) (PD:α2) (YV:α3) (Vy:Value) (h0:C It J3 PD YV) (hs:Cv E (F It J3 PD YV Vy)) (hI:∀M w,I.h M w→(Ii It J3 PD YV Vy).h M w)
  (round:∀x0 x1 x2 x3 v0,C x0 x1 x2 x3→Tr L n (F x0 x1 x2 x3 v0++K) (Ii x0 x1 x2 x3 v0) c (Exit.then (fun a w=>∃Dv Ee Gs N0 M3,(C Dv Ee Gs N0∧μ Dv Ee Gs N0<μ x0 x1 x2 x3)∧St n (F Dv Ee Gs N0 M3++K) (Ii Dv Ee Gs N0 M3) a w) Q)):Tr L n E I (.loop c) Q:=
 Tr.LL K hK (fun y:α0×α1×α2×α3×Value=>F y.1 y.2.1 y.2.2.1 y.2.2.2.1 y.2.2.2.2) (fun y=>Ii y.1 y.2.1 y.2.2.1 y.2.2.2.1 y.2.2.2.2) (fun y=>C y.1 y.2.1 y.2.2.1 y.2.2.2.1) (fun y=>μ y.1 y.2.1 y.2.2.1 y.2.2.2.1) (It,J3,PD,YV,Vy) h0 hs hI fun y hy=>
  Tr.post (round y.1 y.2.1 y.2.2.1 y.2.2.2.1 y.2.2.2.2 hy) fun e a w h=>by
   cases e<;>first|exact h|(obtain ⟨Dv,Ee,Gs,N0,M3,h1,h2⟩:=h;exact ⟨(Dv,Ee,Gs,N0,M3),h1,h2⟩)
theorem Fin.YX {α0 α1 α2 α3:Type} {E1:α0→α1→α2→α3→Value→Env} {I1:α0→α1→α2→α3→Value→Ca} {C:α0→α1→α2→α3→Prop} (x0:α0) (x1:α1) (x2:α2) (x3:α3) (v0:Value) (hC:C x0 x1 x2 x3) (hs:Cv E (E1 x0 x1 x2 x3 v0)) (hI:∀M w,I.h M w→(I1 x0 x1 x2 x3 v0).h M w):
  Fin n E I (Exit.then (fun a w=>∃Dv Ee Gs N0 M3,C Dv Ee Gs N0∧St n (E1 Dv Ee Gs N0 M3) (I1 Dv Ee Gs N0 M3) a w) Q) .normal:=fun _ _ hst=>⟨x0,x1,x2,x3,v0,hC,hst.sub hs hI⟩
end
structure DS where
 l:List Int
 at_:Nat
 h:at_≤l.length
 h2:l.length≤1000000000
def DS.val (s:DS) (n:Int):Int:=match s.l[s.at_]? with|some x=>x % n|none=>0
def DS.Aj (s:DS):DS:=if h:s.at_<s.l.length then ⟨s.l,s.at_+1,h,s.h2⟩ else s
theorem DS.B4 (s:DS) {n:Int} (hn:1≤n):0≤s.val n∧s.val n<n:=by
 unfold DS.val
 split
 · exact ⟨Int.emod_nonneg _ (by omega),Int.emod_lt_of_pos _ (by omega)⟩
 · omega
theorem DS.YY {s:DS} (h:s.l.length≤s.at_) (n:Int):s.val n=0:=by
 unfold DS.val;rw [List.getElem?_eq_none h]
theorem DS.YZ {s:DS} (h:s.l.length≤s.at_):s.Aj=s:=by
 unfold DS.Aj;rw [dif_neg (by omega)]
theorem DS.dB {s:DS} {x:Int} (h:s.l[s.at_]? =some x) (n:Int):s.val n=x % n:=by
 unfold DS.val;rw [h]
theorem DS.dD {s:DS} (h:s.at_<s.l.length):s.Aj=⟨s.l,s.at_+1,h,s.h2⟩:=by
 unfold DS.Aj;rw [dif_pos h]
def Ko (s:DS):List Pr:=[slice 1 (s.l.map fun n=>[int n]),int ((s.at_:Nat):Int)]
def M4 (T:TypeId) (b:Nat) (s:DS):BO:=AE true b T (Ko s)
def EZ (T:TypeId) (b:Nat):BO:=J0 true b T (fun _:DS=>True) Ko
def DS.of (s:DS) (l:List Int):Int:=(l[(s.val l.length).toNat]?).getD 0
theorem DS.HM (s:DS) {l:List Int} (h:l≠[]):s.of l∈l:=by
 have h0:1≤(l.length:Int):=by
  have:=List.length_pos_iff.2 h
  omega
 have:=s.B4 h0
 unfold DS.of
 rw [List.getElem?_eq_getElem (by omega)]
 exact List.getElem_mem _
section
variable {P:Program} {L:Lg P} {n:Fm} {fz:Nat} {E:Env} {M0:Av} {w0:World} {S:Nat→Prop} {rs:List BO}
theorem BG.exd {f:FuncId} {args:List Pr} {res:Pr} {T:TypeId} {b:Nat} {R':Value→BO} (h:∀s,BG P f args res (M4 T b s) R'):BG P f args res (EZ T b) R':=by
 refine ⟨(h ⟨[],0,by simp,by simp⟩).1,fun M0 w0 S rs M w vs hI hv=> ?_⟩
 obtain ⟨s,_,hs⟩:=(hI.hold (EZ T b) (by simp)).1
 have h2:BU M0 w0 S (M4 T b s::rs) M w:=BU.Db (i:=0) hI rfl rfl rfl hs
 exact (h s).2 M0 w0 S rs M w vs h2 hv
theorem Tr.JE {Q:Exit→Act→World→Prop} {c:Code} (i:Nat) {T:TypeId} {b:Nat} (hi:rs[i]? =some (EZ T b)) (k:∀s,Tr L n E (Hp M0 w0 S (rs.set i (M4 T b s))) c Q):Tr L n E (Hp M0 w0 S rs) c Q:=
 Tr.iw i hi fun s _=>k s
theorem Fin.JE {Q:Exit→Act→World→Prop} {e:Exit} (i:Nat) {T:TypeId} {b:Nat} (hi:rs[i]? =some (EZ T b)) (k:∀s,Fin n E (Hp M0 w0 S (rs.set i (M4 T b s))) Q e):Fin n E (Hp M0 w0 S rs) Q e:=by
 rintro a w ⟨M,h1,h2,h3,h4⟩
 have h4:BU M0 w0 S rs M w:=h4
 obtain ⟨x,hx,hh⟩:=(h4.hold _ (List.mem_of_getElem? hi)).1
 exact k x a w ⟨M,h1,h2,h3,h4.Db hi rfl rfl hh⟩
theorem Fin.Bn {Q:Exit→Act→World→Prop} {e:Exit} (i:Nat) {T:TypeId} {b:Nat} (s:DS) {ps:List Pr} (hi:rs[i]? =some (AE true b T ps)) (hp:ps=Ko s) (k:Fin n E (Hp M0 w0 S (rs.set i (EZ T b))) Q e):Fin n E (Hp M0 w0 S rs) Q e:=
 Fin.Kn i (fun _=>True) Ko s trivial hi hp k
theorem Tr.Bn {Q:Exit→Act→World→Prop} {c:Code} (i:Nat) {T:TypeId} {b:Nat} (s:DS) {ps:List Pr} (hi:rs[i]? =some (AE true b T ps)) (hp:ps=Ko s) (k:Tr L n E (Hp M0 w0 S (rs.set i (EZ T b))) c Q):Tr L n E (Hp M0 w0 S rs) c Q:=
 Tr.Kn i (fun _=>True) Ko s trivial hi hp k
theorem TO.R3 {ops:Array Oper} {l:List Oper} {Q:Exit→Act→World→Prop} (s j:Nat) {v:Value} {f:Value→BO} (g:Nat→BO) (hs:E.lookup s=some (As v (Cp.ex fun b=>ptr b 0))) (hi:rs[j]? =some (f v)) (hf:∀b,f (.pointer (some ⟨b,0,none⟩))=g b)
  (k:∀b,TO P n ops l ((s,ptr b 0)::E) (Hp M0 w0 S (rs.set j (g b))) Q):TO P n ops l E (Hp M0 w0 S rs) Q:=by
 intro k0 hl a w hst
 obtain ⟨M,h1,h2,he,h4⟩:=hst
 obtain ⟨h5,b,h6⟩:=he s _ hs
 have hv:v= .pointer (some ⟨b,0,none⟩):=by rw [←h5];exact h6
 have hj:rs.set j (g b)=rs:=by
  have hjl:j<rs.length:=by rcases Nat.lt_or_ge j rs.length with h|h;exact h;rw [List.getElem?_eq_none h] at hi;cases hi
  rw [←hf b,←hv]
  rw [List.getElem?_eq_getElem hjl] at hi
  simp at hi
  rw [←hi,List.set_getElem_self]
 refine k b k0 hl a w ⟨M,h1,h2,?_,by rw [hj];exact h4⟩
 intro t q hq
 simp only [List.lookup] at hq
 by_cases ht:t=s
 · subst ht;simp at hq;subst hq;exact h6
 · rw [show (t==s)=false by simpa using ht] at hq;exact he t q hq
def JF (r:ResultVar) (a:Act):Sem Value:=match r with| .tmp t=>pure (a.tmps.getD t undef)| .cell c t=>do loadVar t (←asAddr (a.tmps.getD c undef))
def AW (P:Program) (E:Env) (rs:List BO) (r:ResultVar) (p:Pr):Prop:=∀(M:Av) (w:World) (a:Act),F9 M w E a→(∀q∈rs,q.h M w)→∃v,(JF r a).run P w= .ok v w∧p.h M w v
theorem AW.tmp {t:Tmp} {q p:Pr} (h:E.lookup t=some q) (hl:Pr.le q p):AW P E rs (.tmp t) p:=fun _ _ _ he _=>⟨_,rfl,hl _ _ _ (he _ _ h)⟩
theorem AW.cell (i:Nat) {c:Tmp} {t T:TypeId} {b m:Nat} {new:Bool} {ps:List Pr} {p:Pr} (h:E.lookup c=some (ptr b 0)) (hi:rs[i]? =some (AE new b T ps)) (ht:FJ P t=true) (hz:Ap P t=some m) (hm:ps.length=m) (hl:Pr.le (agg ps) p):AW P E rs (.cell c t) p:=by
 intro M w a he hr
 obtain ⟨v,h1,h2⟩:=Vs ht hz hm (hr _ (List.mem_of_getElem? hi))
 refine ⟨v,?_,hl _ _ _ h2⟩
 have hc:a.tmps.getD c undef= .pointer (some ⟨b,0,none⟩):=he _ _ h
 unfold JF
 simp only [hc,asAddr]
 simpa [Sem.run_bind] using h1
theorem JR (g:Func) (a:Act):results g a.tmps=(do let vs ←g.results.mapM (fun r=>JF r a);pure (if h:vs.size=1 then vs[0] else .tuple vs)):=by
 have:(fun r:ResultVar=>JF r a)=(fun| .tmp t=>pure (a.tmps.getD t undef)| .cell c t=>do loadVar t (←asAddr (a.tmps.getD c undef))):=by
  funext r;cases r<;>rfl
 rw [this];rfl
theorem results1 {g:Func} {r:ResultVar} {a:Act} {w:World} {v:Value} (hr:g.results= #[r]) (h:(JF r a).run P w= .ok v w):(results g a.tmps).run P w= .ok v w:=by
 rw [JR,hr];simp [Sem.run_bind,h]
theorem results2 {g:Func} {r r':ResultVar} {a:Act} {w:World} {v v':Value} (hr:g.results= #[r,r']) (h:(JF r a).run P w= .ok v w) (h':(JF r' a).run P w= .ok v' w):(results g a.tmps).run P w= .ok (.tuple #[v,v']) w:=by
 rw [JR,hr];simp [Sem.run_bind,h,h']
theorem results3 {g:Func} {r r' r'':ResultVar} {a:Act} {w:World} {v v' v'':Value} (hr:g.results= #[r,r',r'']) (h:(JF r a).run P w= .ok v w) (h':(JF r' a).run P w= .ok v' w) (h'':(JF r'' a).run P w= .ok v'' w):(results g a.tmps).run P w= .ok (.tuple #[v,v',v'']) w:=by
 rw [JR,hr];simp [Sem.run_bind,h,h',h'']
theorem BU.TX {M:Av} {w:World}:∀{pre:List BO},BU M0 w0 S (pre++rs) M w→BU M0 w0 S rs M w
 |[],h=>h
 |_::_,h=>BU.TX h.LQ
variable {g:Func} {M1:Av} {w1:World}
theorem Fin.CU {r:ResultVar} {p q:Pr} (hr:g.results= #[r]) (h:AW P E rs r q) (hl:Pr.le q p):Fin ⟨fz,[]⟩ E (Hp M0 w0 Mg rs) (bodyPost P g (QT M0 w0 p)) .ret:=by
 rintro a w ⟨M,_,hd,he,hi⟩
 obtain ⟨v,hv,hp⟩:=h M w a he (fun q hq=>(hi.hold q hq).1)
 obtain ⟨h1,h2⟩:=CH.Ep M0 w0 M w hi
 exact ⟨hd,v,results1 hr hv,_,rfl,p.st _ _ _ _ _ (Ext.less h1) (hl _ _ _ hp),h2⟩
theorem Fin.C4 {r r':ResultVar} {p q q':Pr} (hr:g.results= #[r,r']) (h:AW P E rs r q) (h':AW P E rs r' q') (hl:Pr.le (Fa [q,q']) p):Fin ⟨fz,[]⟩ E (Hp M0 w0 Mg rs) (bodyPost P g (QT M0 w0 p)) .ret:=by
 rintro a w ⟨M,_,hd,he,hi⟩
 obtain ⟨v,hv,hp⟩:=h M w a he (fun q hq=>(hi.hold q hq).1)
 obtain ⟨v',hv',Ns⟩:=h' M w a he (fun q hq=>(hi.hold q hq).1)
 obtain ⟨h1,h2⟩:=CH.Ep M0 w0 M w hi
 exact ⟨hd,_,results2 hr hv hv',_,rfl,p.st _ _ _ _ _ (Ext.less h1) (hl _ _ _ ⟨[_,_],rfl,hp,Ns,trivial⟩),h2⟩
theorem Fin.E0 {r r' r'':ResultVar} {p q q' iO:Pr} (hr:g.results= #[r,r',r'']) (h:AW P E rs r q) (h':AW P E rs r' q') (h'':AW P E rs r'' iO) (hl:Pr.le (Fa [q,q',iO]) p):Fin ⟨fz,[]⟩ E (Hp M0 w0 Mg rs) (bodyPost P g (QT M0 w0 p)) .ret:=by
 rintro a w ⟨M,_,hd,he,hi⟩
 obtain ⟨v,hv,hp⟩:=h M w a he (fun q hq=>(hi.hold q hq).1)
 obtain ⟨v',hv',Ns⟩:=h' M w a he (fun q hq=>(hi.hold q hq).1)
 obtain ⟨v'',og,oh⟩:=h'' M w a he (fun q hq=>(hi.hold q hq).1)
 obtain ⟨h1,h2⟩:=CH.Ep M0 w0 M w hi
 exact ⟨hd,_,results3 hr hv hv' og,_,rfl,p.st _ _ _ _ _ (Ext.less h1) (hl _ _ _ ⟨[_,_,_],rfl,hp,Ns,oh,trivial⟩),h2⟩
theorem Fin.CB (pre:List BO) {r:ResultVar} {R:BO} {R':Value→BO} {p q:Pr} (hr:g.results= #[r]) (h:AW P E (pre++R::Bv M1 w1::rs) r q) (hl:Pr.le q p) (hR:∀M w v,q.h M w v→R' v=R):
  Fin ⟨fz,[]⟩ E (Hp M0 w0 S (pre++R::Bv M1 w1::rs)) (bodyPost P g (TP M0 w0 S rs M1 w1 p R')) .ret:=by
 rintro a w ⟨M,_,hd,he,hi⟩
 obtain ⟨v,hv,hp⟩:=h M w a he (fun q hq=>(hi.hold q hq).1)
 obtain ⟨h1,h2⟩:=iz (BU.TX hi)
 exact ⟨hd,v,results1 hr hv,_,M,rfl,hl _ _ _ hp,h1,by rw [hR _ _ _ hp];exact h2⟩
theorem A9 {α:Type} {p:α→Pr} {q:Pr} (x:α) (h:Pr.le q (p x)):Pr.le q (Cp.ex p):=fun M w v hv=>⟨x,h M w v hv⟩
theorem A2 {φ:Prop} {p q:Pr} (hφ:φ) (h:Pr.le q p):Pr.le q (fact φ p):=fun M w v hv=>⟨hφ,h M w v hv⟩
end
section
variable {P:Program} {L:Lg P} {n:Fm} {fz:Nat} {E:Env} {M0:Av} {w0:World} {S:Nat→Prop} {rs:List SR} {o:Oper}
theorem Dd {t:TypeId} {x:Operand} {q:Tmp} {j:Nat} {new:Bool} {b off:Nat} {T:TypeId} {ps:List Pr} {p:Pr} [One p] (hg:o.guard=none) (hd:o.dst=none) (ho:o.op= .store t x (.tmp q)) (hx:VL E x (ptr b off)) (hy:E.lookup q=some p)
  (hz:Ap P t=some 1) (hl:off+1≤ps.length):DU P M0 w0 S n j (SR.c (AE new b T ps)) ⟨q,fun v=>AE new b T (ps.take off++[As v p]++ps.drop (off+1))⟩ o E any:=by
 refine ⟨hg,fun M w a rs hsz he hI hj=> ?_⟩
 have h1:a.eval x= .pointer (some ⟨b,off,none⟩):=hx.ev he (by simp [ho,Op.operands])
 have hv:VL E (.tmp q) p:=⟨_,hy,Pr.le_refl _⟩
 have hp:=hv.ev he (show (Operand.tmp q)∈o.op.operands.toList by simp [ho,Op.operands])
 obtain ⟨h2,h3⟩:=(VL.le hv (AS p)).ev he (show (Operand.tmp q)∈o.op.operands.toList by simp [ho,Op.operands])
 obtain ⟨⟨_,cs,h4,h5,h6⟩,_⟩:=hI.hold _ (List.mem_of_getElem? hj)
 have X9:=h5.length
 have bF:=h2.length
 have hone:(a.eval (.tmp q)).cells= #[a.eval (.tmp q)]:=(One.one (p:=p) M w _ hp).1
 have h2':HL M w [As (a.eval (.tmp q)) p] (a.eval (.tmp q)).cells.toList:=by rw [hone];exact ⟨⟨rfl,hp⟩,trivial⟩
 have hcells:(a.eval (.tmp q)).cells.size=1:=by rw [hone];rfl
 have hrun:(storeCells ⟨b,off,none⟩ (a.eval (.tmp q)).cells.toList 0).run P w= .ok () (w.setRow b (cs.take off++(a.eval (.tmp q)).cells.toList++cs.drop (off+1)).toArray):=by
  have:=run_storeCells_at (P:=P) b off T (a.eval (.tmp q)).cells.toList 0 cs.toArray w h4 (by simp [hcells];omega) h3
  simpa [hcells] using this
 have Cz:(execOp a.eval o).run P w= .ok .skip (w.setRow b (cs.take off++(a.eval (.tmp q)).cells.toList++cs.drop (off+1)).toArray):=by
  simp [execOp,ho,h1,Instr.storeAt,Instr.sureAddr,storeVar,Bb hz,hcells,hrun]
 rw [Cz]
 obtain ⟨h7, h8⟩ := BU.write (qs := ps.take off ++ [As (a.eval (.tmp q)) p] ++ ps.drop (off + 1)) (cs := cs.take off ++ (a.eval (.tmp q)).cells.toList ++ cs.drop (off + 1)) hI hj ((((h5.take off).app h2')).app (h5.drop (off + 1)))
  (fun c hc=>by
   simp only [List.mem_append] at hc
   rcases hc with (hc|hc)|hc
   · exact h6 c (List.mem_of_mem_take hc)
   · exact h3 c hc
   · exact h6 c (List.mem_of_mem_drop hc))
 refine ⟨M,trivial,h8,?_⟩
 have hput:SR.at_ (a.put o.dst undef) ⟨q,fun v=>AE new b T (ps.take off++[As v p]++ps.drop (off+1))⟩=AE new b T (ps.take off++[As (a.eval (.tmp q)) p]++ps.drop (off+1)):=by rw [hd];rfl
 rw [hput];exact h7
theorem PF {j s:Nat} {f:Value→BO} (hR:rs[j]? =some ⟨s,f⟩) (a:Act):(rs.set j (SR.c (f (a.tmps.getD s undef)))).map (·.at_ a)=rs.map (·.at_ a):=by
 rw [List.map_set]
 apply List.ext_getElem?
 intro i
 rw [List.getElem?_set]
 by_cases hij:j=i
 ·
  subst hij
  rw [if_pos rfl]
  split
  · rw [List.getElem?_map,hR];rfl
  ·
   rename_i hge
   rw [List.getElem?_eq_none (by omega)]
 · rw [if_neg hij]
theorem BV.M5 {Q:Exit→Act→World→Prop} (j i s:Nat) {f g:Value→BO} {p:Pr} (hR:rs[j]? =some ⟨s,f⟩) (hR':rs[i]? =some ⟨s,g⟩) (hij:j≠i) (hs:E.lookup s=some p) (k:∀v,BV n M0 w0 S ((s,As v p)::E) ((rs.set j (SR.c (f v))).set i (SR.c (g v))) Q):BV n M0 w0 S E rs Q:=by
 rintro a w ⟨M,h1,h2,h3,h4⟩
 refine k (a.tmps.getD s undef) a w ⟨M,h1,h2,?_,?_⟩
 ·
  intro t q hq
  simp only [List.lookup] at hq
  by_cases ht:t=s
  · subst ht;simp only [beq_self_eq_true,Option.some.injEq] at hq;subst hq;exact ⟨rfl,h3 t p hs⟩
  · rw [show (t==s)=false by simpa using ht] at hq;exact h3 t q hq
 · rw [PF (rs:=rs.set j (SR.c (f (a.tmps.getD s undef)))) (j:=i) (s:=s) (f:=g) (by rw [List.getElem?_set,if_neg hij];exact hR') a,PF hR a];exact h4
end
section
variable {P:Program} {L:Lg P} {n:Fm} {fz:Nat} {E:Env} {M0:Av} {w0:World} {S:Nat→Prop} {rs:List BO}
theorem St.HN (j:Nat) {new:Bool} {b:Nat} {T:TypeId} {ps qs:List Pr} (hi:rs[j]? =some (AE new b T ps)) (h:LS ps qs) {a:Act} {w:World} (hs:St n E (Hp M0 w0 S rs) a w):St n E (Hp M0 w0 S (rs.set j (AE new b T qs))) a w:=by
 obtain ⟨M,h1,h2,h3,h4⟩:=hs
 have h4:BU M0 w0 S rs M w:=h4
 obtain ⟨h5,cs,h6,h7,h8⟩:=(h4.hold _ (List.mem_of_getElem? hi)).1
 exact ⟨M,h1,h2,h3,h4.Db hi rfl rfl ⟨h5,cs,h6,h.hl h7,h8⟩⟩
theorem Tr.HN {Q:Exit→Act→World→Prop} {c:Code} (j:Nat) {new:Bool} {b:Nat} {T:TypeId} {ps:List Pr} (qs:List Pr) (hi:rs[j]? =some (AE new b T ps)) (h:LS ps qs) (k:Tr L n E (Hp M0 w0 S (rs.set j (AE new b T qs))) c Q):Tr L n E (Hp M0 w0 S rs) c Q:=
 Tr.conv (fun _ _ hs=>hs.HN j hi h) k
theorem Fin.HN {Q:Exit→Act→World→Prop} {e:Exit} (j:Nat) {new:Bool} {b:Nat} {T:TypeId} {ps:List Pr} (qs:List Pr) (hi:rs[j]? =some (AE new b T ps)) (h:LS ps qs) (k:Fin n E (Hp M0 w0 S (rs.set j (AE new b T qs))) Q e):Fin n E (Hp M0 w0 S rs) Q e:=
 Fin.conv (fun _ _ hs=>hs.HN j hi h) k
end
section
variable {P:Program} {L:Lg P} {n:Fm} {fz:Nat} {E:Env} {M0:Av} {w0:World} {S:Nat→Prop} {rs:List BO}
theorem Fe {I:Ca} {o:Oper} {t e:TypeId} {x y:Operand} {k:IntKind} {i:Int} {len cap sz b off:Nat} (ho:o.op= .indexAddr t x y) (ht:P.underlying t=some (.slice e)) (hz:Ap P e=some sz) (hx:VL E x (is (.slice (some ⟨b,off,none⟩) len cap))) (hy:VL E y (is (.int k i)))
  (h0:0≤i) (hl:i<len):Ad P I o E (ptr b (off+i.toNat*sz)):=
 Ad.same fun M w a he _=>by
  have h1:a.eval x=_:=hx.ev he (by simp [ho,Op.operands])
  have h5:a.eval y= .int k i:=hy.ev he (by simp [ho,Op.operands])
  refine ⟨_,?_,rfl⟩
  simp [execOp,ho,h1,h5,Instr.indexAt,asIntOf,run_underlying ht,Bb hz,h0,hl,Co]
theorem Tr.perm {Q:Exit→Act→World→Prop} {c:Code} {rs':List BO} (hp:rs.Perm rs') (k:Tr L n E (Hp M0 w0 S rs') c Q):Tr L n E (Hp M0 w0 S rs) c Q:=
 Tr.conv (fun _ _ ⟨M,h1,h2,h3,h4⟩=>⟨M,h1,h2,h3,BU.perm hp h4⟩) k
theorem Fin.perm {Q:Exit→Act→World→Prop} {ex:Exit} {rs':List BO} (hp:rs.Perm rs') (k:Fin n E (Hp M0 w0 S rs') Q ex):Fin n E (Hp M0 w0 S rs) Q ex:=
 Fin.conv (fun _ _ ⟨M,h1,h2,h3,h4⟩=>⟨M,h1,h2,h3,BU.perm hp h4⟩) k
theorem BU.PG {b:Nat} {T:TypeId} {ps:List Pr} {M:Av} {w:World} (h4:BU M0 w0 S (AE true b T ps::rs) M w):∃M',BU M0 w0 S rs M' w∧Ext M w M' w∧Row M' w ⟨b,0,none⟩ 0 ps:=by
 obtain ⟨⟨hm,cs,hh,hc,hone⟩,bE⟩:=h4.hold _ (List.mem_cons_self ..)
 obtain ⟨hlt,hnew⟩:=bE b rfl
 have hnew:w0.heap.size≤b:=by simpa [AE] using hnew
 have he:Ext M w (fun b' o=>M b' o∧b'≠b) w:=Ext.less fun _ _ h=>h.1
 obtain ⟨om,oo⟩:=List.pairwise_cons.1 h4.nd
 refine ⟨fun b' o=>M b' o∧b'≠b,⟨h4.m0,fun b' o' hm'=>⟨h4.m b' o' hm',fun e=> ?_⟩,h4.os,h4.tape,h4.output,h4.size,h4.block,fun b' o' hm'=>h4.bd b' o' hm'.1,fun r hr=> ?_,oo⟩,he,fun j p hp=> ?_⟩
 ·
  subst e
  have:=h4.m0 _ _ hm'
  omega
 ·
  obtain ⟨h5,h6⟩:=h4.hold r (List.mem_cons_of_mem _ hr)
  exact ⟨r.st _ _ _ _ he (fun b' hb'=>⟨rfl,fun o' hmo=>⟨hmo,fun e=>om r hr b rfl (by rw [←e];exact hb')⟩⟩) h5,h6⟩
 ·
  obtain ⟨u,hu,cW⟩:=hc.at_ j p hp
  refine ⟨u,?_,fun hx=>hx.2 rfl,hone u (List.mem_of_getElem? hu),p.st _ _ _ _ _ he cW⟩
  rw [show Addr.add ⟨b,0,none⟩ (0+j)=⟨b,j,none⟩ by unfold Addr.add;split<;>simp_all]
  simp [World.cell?,hh,hu]
end
end Cp
namespace Go.Proofs.YtppeeogffbpcbaaGreat
open Go Cp
theorem mixed:Tryz.prog.follows .mixedOrders=true:=by kernel_rfl
theorem sz1:Ap Tryz.prog 1=some 1:=by kernel_rfl
theorem z1:Bh Tryz.prog 1=some [.nilFunc]:=by kernel_rfl
theorem sz2:Ap Tryz.prog 2=some 1:=by kernel_rfl
theorem z2:Bh Tryz.prog 2=some [.int .i64 0]:=by kernel_rfl
theorem CO:Ap Tryz.prog 3=some 1:=by kernel_rfl
theorem CV:FA Tryz.prog 3=true:=by kernel_rfl
theorem OJ:CI Tryz.prog 3=some 8:=by kernel_rfl
theorem jE:([.int .i64 0]:List Value).all (·.oneCell')=true:=by kernel_rfl
theorem z3:Bh Tryz.prog 3=some [.int .i64 0]:=by kernel_rfl
theorem sz4:Ap Tryz.prog 4=some 1:=by kernel_rfl
theorem oq:FA Tryz.prog 4=true:=by kernel_rfl
theorem J5:Ap Tryz.prog 5=some 1:=by kernel_rfl
theorem jF:FA Tryz.prog 5=true:=by kernel_rfl
theorem TY:CI Tryz.prog 5=some 1:=by kernel_rfl
theorem zo5:([.int .u8 0]:List Value).all (·.oneCell')=true:=by kernel_rfl
theorem z5:Bh Tryz.prog 5=some [.int .u8 0]:=by kernel_rfl
theorem z6:Bh Tryz.prog 6=some [.int .u8 0]:=by kernel_rfl
theorem G0:Ap Tryz.prog 9=some 1:=by kernel_rfl
theorem J6:FA Tryz.prog 9=true:=by kernel_rfl
theorem jG:CI Tryz.prog 9=some 16:=by kernel_rfl
theorem zo9:([.string (ByteArray.mk #[])]:List Value).all (·.oneCell')=true:=by kernel_rfl
theorem z9:Bh Tryz.prog 9=some [.string (ByteArray.mk #[])]:=by kernel_rfl
theorem z12:Bh Tryz.prog 12=some [.int .u64 0]:=by kernel_rfl
theorem z13:Bh Tryz.prog 13=some [.string (ByteArray.mk #[]),.int .u64 0]:=by kernel_rfl
theorem z18:Bh Tryz.prog 18=some [.pointer none]:=by kernel_rfl
theorem z20:Bh Tryz.prog 20=some [.nilIface]:=by kernel_rfl
theorem Fl:Ap Tryz.prog 22=some 1:=by kernel_rfl
theorem OK:FA Tryz.prog 22=true:=by kernel_rfl
theorem z22:Bh Tryz.prog 22=some [.slice none 0 0]:=by kernel_rfl
theorem DE:Ap Tryz.prog 24=some 2:=by kernel_rfl
theorem CM:FJ Tryz.prog 24=true:=by kernel_rfl
theorem R4:∀ps,Tryz.prog.built 24 ps=Instr.fill (fun i=>(#[(0,1),(1,1)]:Array (Nat×Nat))[i]?) ((List.replicate 2 (.int .i64 0)):List Value).toArray ps:=by intro ps;kernel_rfl
theorem De:((List.replicate 2 (.int .i64 0)):List Value).all (·.oneCell')=true:=by kernel_rfl
theorem z24:Bh Tryz.prog 24=some (List.replicate 2 (.int .i64 0)):=by kernel_rfl
theorem dF:Ag Tryz.prog 24 0=some 0:=by kernel_rfl
theorem dG:Ag Tryz.prog 24 1=some 1:=by kernel_rfl
theorem jH:Ap Tryz.prog 25=some 1:=by kernel_rfl
theorem bL:FA Tryz.prog 25=true:=by kernel_rfl
theorem BR:Ap Tryz.prog 27=some 4:=by kernel_rfl
theorem E2:FJ Tryz.prog 27=true:=by kernel_rfl
theorem J7:CI Tryz.prog 27=some 48:=by kernel_rfl
theorem Ya:∀ps,Tryz.prog.built 27 ps=Instr.fill (fun i=>(#[(0,2),(2,1),(3,1)]:Array (Nat×Nat))[i]?) ([.int .i64 0,.int .i64 0,.int .i64 0,.slice none 0 0]:List Value).toArray ps:=by intro ps;kernel_rfl
theorem HO:([.int .i64 0,.int .i64 0,.int .i64 0,.slice none 0 0]:List Value).all (·.oneCell')=true:=by kernel_rfl
theorem HP:Bh Tryz.prog 27=some [.int .i64 0,.int .i64 0,.int .i64 0,.slice none 0 0]:=by kernel_rfl
theorem dH:Ag Tryz.prog 27 0=some 0:=by kernel_rfl
theorem dI:Ag Tryz.prog 27 1=some 2:=by kernel_rfl
theorem R5:Ag Tryz.prog 27 2=some 3:=by kernel_rfl
theorem BE:Ap Tryz.prog 29=some 8:=by kernel_rfl
theorem Be:FJ Tryz.prog 29=true:=by kernel_rfl
theorem Qf:CI Tryz.prog 29=some 80:=by kernel_rfl
theorem PI:∀ps,Tryz.prog.built 29 ps=Instr.fill (fun i=>(#[(0,1),(1,1),(2,1),(3,1),(4,4)]:Array (Nat×Nat))[i]?) ([.int .i64 0,.int .i64 0,.int .i64 0,.int .i64 0,.int .i64 0,.int .i64 0,.int .i64 0,.slice none 0 0]:List Value).toArray ps:=by intro ps;kernel_rfl
theorem Fo:([.int .i64 0,.int .i64 0,.int .i64 0,.int .i64 0,.int .i64 0,.int .i64 0,.int .i64 0,.slice none 0 0]:List Value).all (·.oneCell')=true:=by kernel_rfl
theorem z29:Bh Tryz.prog 29=some [.int .i64 0,.int .i64 0,.int .i64 0,.int .i64 0,.int .i64 0,.int .i64 0,.int .i64 0,.slice none 0 0]:=by kernel_rfl
theorem dJ:Ag Tryz.prog 29 0=some 0:=by kernel_rfl
theorem GD:Ag Tryz.prog 29 1=some 1:=by kernel_rfl
theorem HQ:Ag Tryz.prog 29 2=some 2:=by kernel_rfl
theorem JS:Ag Tryz.prog 29 3=some 3:=by kernel_rfl
theorem Kq:Ag Tryz.prog 29 4=some 4:=by kernel_rfl
theorem Li:Ap Tryz.prog 30=some 1:=by kernel_rfl
theorem Ta:FA Tryz.prog 30=true:=by kernel_rfl
theorem z31:Bh Tryz.prog 31=some [.string (ByteArray.mk #[]),.int .i64 0,.int .i64 0,.slice none 0 0,.bool false,.slice none 0 0,.slice none 0 0,.slice none 0 0,.bool false]:=by kernel_rfl
theorem A8:Ap Tryz.prog 32=some 9:=by kernel_rfl
theorem BM:FJ Tryz.prog 32=true:=by kernel_rfl
theorem Yb:CI Tryz.prog 32=some 144:=by kernel_rfl
theorem Yc:∀ps,Tryz.prog.built 32 ps=Instr.fill (fun i=>(#[(0,1),(1,1),(2,1),(3,1),(4,1),(5,1),(6,1),(7,1),(8,1)]:Array (Nat×Nat))[i]?) ([.string (ByteArray.mk #[]),.int .i64 0,.int .i64 0,.slice none 0 0,.bool false,.slice none 0 0,.slice none 0 0,.slice none 0 0,.bool false]:List Value).toArray ps:=by intro ps;kernel_rfl
theorem Df:([.string (ByteArray.mk #[]),.int .i64 0,.int .i64 0,.slice none 0 0,.bool false,.slice none 0 0,.slice none 0 0,.slice none 0 0,.bool false]:List Value).all (·.oneCell')=true:=by kernel_rfl
theorem z32:Bh Tryz.prog 32=some [.string (ByteArray.mk #[]),.int .i64 0,.int .i64 0,.slice none 0 0,.bool false,.slice none 0 0,.slice none 0 0,.slice none 0 0,.bool false]:=by kernel_rfl
theorem R6:Ag Tryz.prog 32 0=some 0:=by kernel_rfl
theorem V1:Ag Tryz.prog 32 1=some 1:=by kernel_rfl
theorem M6:Ag Tryz.prog 32 2=some 2:=by kernel_rfl
theorem Ea:Ag Tryz.prog 32 3=some 3:=by kernel_rfl
theorem dK:Ag Tryz.prog 32 4=some 4:=by kernel_rfl
theorem EC:Ag Tryz.prog 32 5=some 5:=by kernel_rfl
theorem IL:Ag Tryz.prog 32 6=some 6:=by kernel_rfl
theorem IM:Ag Tryz.prog 32 7=some 7:=by kernel_rfl
theorem dL:Ag Tryz.prog 32 8=some 8:=by kernel_rfl
theorem Yd:Ap Tryz.prog 37=some 1:=by kernel_rfl
theorem OL:FA Tryz.prog 37=true:=by kernel_rfl
theorem jI:Ap Tryz.prog 38=some 1:=by kernel_rfl
theorem Tc:FA Tryz.prog 38=true:=by kernel_rfl
theorem Ye:Ap Tryz.prog 39=some 1:=by kernel_rfl
theorem V2:FA Tryz.prog 39=true:=by kernel_rfl
theorem Bz:Ap Tryz.prog 41=some 3:=by kernel_rfl
theorem Bu:FJ Tryz.prog 41=true:=by kernel_rfl
theorem Yf:∀ps,Tryz.prog.built 41 ps=Instr.fill (fun i=>(#[(0,1),(1,1),(2,1)]:Array (Nat×Nat))[i]?) ((List.replicate 3 (.slice none 0 0)):List Value).toArray ps:=by intro ps;kernel_rfl
theorem Ef:((List.replicate 3 (.slice none 0 0)):List Value).all (·.oneCell')=true:=by kernel_rfl
theorem z41:Bh Tryz.prog 41=some (List.replicate 3 (.slice none 0 0)):=by kernel_rfl
theorem Gt:Ag Tryz.prog 41 0=some 0:=by kernel_rfl
theorem Kr:Ag Tryz.prog 41 1=some 1:=by kernel_rfl
theorem JT:Ag Tryz.prog 41 2=some 2:=by kernel_rfl
theorem Rm:Bh Tryz.prog 54=some [.nilFunc]:=by kernel_rfl
theorem jJ:Ap Tryz.prog 59=some 1:=by kernel_rfl
theorem jK:FA Tryz.prog 59=true:=by kernel_rfl
theorem z59:Bh Tryz.prog 59=some [.slice none 0 0]:=by kernel_rfl
theorem jL:FA Tryz.prog 66=true:=by kernel_rfl
theorem jM:Ap Tryz.prog 74=some 1:=by kernel_rfl
theorem jN:FA Tryz.prog 74=true:=by kernel_rfl
theorem FL:Ap Tryz.prog 80=some 2:=by kernel_rfl
theorem OM:FJ Tryz.prog 80=true:=by kernel_rfl
theorem dM:CI Tryz.prog 80=some 16:=by kernel_rfl
theorem dN:∀ps,Tryz.prog.built 80 ps=Instr.fill (fun i=>(#[(0,1),(1,1)]:Array (Nat×Nat))[i]?) ((List.replicate 2 (.int .i64 0)):List Value).toArray ps:=by intro ps;kernel_rfl
theorem R7:((List.replicate 2 (.int .i64 0)):List Value).all (·.oneCell')=true:=by kernel_rfl
theorem Yg:Bh Tryz.prog 80=some (List.replicate 2 (.int .i64 0)):=by kernel_rfl
theorem IP:Ag Tryz.prog 80 0=some 0:=by kernel_rfl
theorem Ks:Ag Tryz.prog 80 1=some 1:=by kernel_rfl
theorem jO:∀ps,Tryz.prog.built 101 ps=Instr.fill (fun i=>(#[(0,1),(1,1)]:Array (Nat×Nat))[i]?) ([.slice none 0 0,.int .i64 0]:List Value).toArray ps:=by intro ps;kernel_rfl
theorem jP:([.slice none 0 0,.int .i64 0]:List Value).all (·.oneCell')=true:=by kernel_rfl
theorem Yh:Ag Tryz.prog 101 0=some 0:=by kernel_rfl
theorem Yi:Ag Tryz.prog 101 1=some 1:=by kernel_rfl
theorem V3:Ap Tryz.prog 105=some 1:=by kernel_rfl
theorem dO:FA Tryz.prog 105=true:=by kernel_rfl
theorem Dg:Ap Tryz.prog 107=some 5:=by kernel_rfl
theorem HR:FJ Tryz.prog 107=true:=by kernel_rfl
theorem Td:CI Tryz.prog 107=some 64:=by kernel_rfl
theorem jQ:∀ps,Tryz.prog.built 107 ps=Instr.fill (fun i=>(#[(0,1),(1,1),(2,1),(3,1),(4,1)]:Array (Nat×Nat))[i]?) ([.string (ByteArray.mk #[]),.int .i64 0,.int .i64 0,.slice none 0 0,.int .i64 0]:List Value).toArray ps:=by intro ps;kernel_rfl
theorem LW:([.string (ByteArray.mk #[]),.int .i64 0,.int .i64 0,.slice none 0 0,.int .i64 0]:List Value).all (·.oneCell')=true:=by kernel_rfl
theorem z107:Bh Tryz.prog 107=some [.string (ByteArray.mk #[]),.int .i64 0,.int .i64 0,.slice none 0 0,.int .i64 0]:=by kernel_rfl
theorem Yj:Ag Tryz.prog 107 0=some 0:=by kernel_rfl
theorem Yk:Ag Tryz.prog 107 1=some 1:=by kernel_rfl
theorem Yl:Ag Tryz.prog 107 2=some 2:=by kernel_rfl
theorem L1:Ag Tryz.prog 107 3=some 3:=by kernel_rfl
theorem Ym:Ag Tryz.prog 107 4=some 4:=by kernel_rfl
theorem V4:Ap Tryz.prog 129=some 2:=by kernel_rfl
theorem dP:FJ Tryz.prog 129=true:=by kernel_rfl
theorem bM:∀ps,Tryz.prog.built 129 ps=Instr.fill (fun i=>(#[(0,1),(1,1)]:Array (Nat×Nat))[i]?) ((List.replicate 2 (.int .i64 0)):List Value).toArray ps:=by intro ps;kernel_rfl
theorem bN:((List.replicate 2 (.int .i64 0)):List Value).all (·.oneCell')=true:=by kernel_rfl
theorem Yn:Ag Tryz.prog 129 0=some 0:=by kernel_rfl
theorem Yo:Ag Tryz.prog 129 1=some 1:=by kernel_rfl
theorem CC:Ap Tryz.prog 131=some 15:=by kernel_rfl
theorem Dh:FJ Tryz.prog 131=true:=by kernel_rfl
theorem Te:CI Tryz.prog 131=some 152:=by kernel_rfl
theorem bO:∀ps,Tryz.prog.built 131 ps=Instr.fill (fun i=>(#[(0,1),(1,1),(2,1),(3,2),(5,1),(6,2),(8,1),(9,1),(10,1),(11,1),(12,1),(13,2)]:Array (Nat×Nat))[i]?) ([.int .i64 0,.string (ByteArray.mk #[]),.string (ByteArray.mk #[]),.int .i64 0,.int .i64 0,.int .i64 0,.int .i64 0,.int .i64 0,.int .i64 0,.int .i64 0,.bool false,.int .i64 0,.slice none 0 0,.int .i64 0,.int .i64 0]:List Value).toArray ps:=by intro ps;kernel_rfl
theorem Gg:([.int .i64 0,.string (ByteArray.mk #[]),.string (ByteArray.mk #[]),.int .i64 0,.int .i64 0,.int .i64 0,.int .i64 0,.int .i64 0,.int .i64 0,.int .i64 0,.bool false,.int .i64 0,.slice none 0 0,.int .i64 0,.int .i64 0]:List Value).all (·.oneCell')=true:=by kernel_rfl
theorem z131:Bh Tryz.prog 131=some [.int .i64 0,.string (ByteArray.mk #[]),.string (ByteArray.mk #[]),.int .i64 0,.int .i64 0,.int .i64 0,.int .i64 0,.int .i64 0,.int .i64 0,.int .i64 0,.bool false,.int .i64 0,.slice none 0 0,.int .i64 0,.int .i64 0]:=by kernel_rfl
theorem Yp:Ag Tryz.prog 131 0=some 0:=by kernel_rfl
theorem Yq:Ag Tryz.prog 131 1=some 1:=by kernel_rfl
theorem Yr:Ag Tryz.prog 131 2=some 2:=by kernel_rfl
theorem Ys:Ag Tryz.prog 131 3=some 3:=by kernel_rfl
theorem Yt:Ag Tryz.prog 131 4=some 5:=by kernel_rfl
theorem Yu:Ag Tryz.prog 131 5=some 6:=by kernel_rfl
theorem Yv:Ag Tryz.prog 131 6=some 8:=by kernel_rfl
theorem Yw:Ag Tryz.prog 131 7=some 9:=by kernel_rfl
theorem Yx:Ag Tryz.prog 131 8=some 10:=by kernel_rfl
theorem Yy:Ag Tryz.prog 131 9=some 11:=by kernel_rfl
theorem Qg:Ag Tryz.prog 131 10=some 12:=by kernel_rfl
theorem M7:Ag Tryz.prog 131 11=some 13:=by kernel_rfl
theorem EP:Ap Tryz.prog 152=some 3:=by kernel_rfl
theorem PJ:FJ Tryz.prog 152=true:=by kernel_rfl
theorem V5:CI Tryz.prog 152=some 24:=by kernel_rfl
theorem jR:∀ps,Tryz.prog.built 152 ps=Instr.fill (fun i=>(#[(0,2),(2,1)]:Array (Nat×Nat))[i]?) ((List.replicate 3 (.int .i64 0)):List Value).toArray ps:=by intro ps;kernel_rfl
theorem V6:((List.replicate 3 (.int .i64 0)):List Value).all (·.oneCell')=true:=by kernel_rfl
theorem z152:Bh Tryz.prog 152=some (List.replicate 3 (.int .i64 0)):=by kernel_rfl
theorem Yz:Ag Tryz.prog 152 0=some 0:=by kernel_rfl
theorem Y0:Ag Tryz.prog 152 1=some 2:=by kernel_rfl
theorem JU:FA Tryz.prog 156=true:=by kernel_rfl
theorem JV:FA Tryz.prog 157=true:=by kernel_rfl
theorem jS:∀ps,Tryz.prog.built 159 ps=Instr.fill (fun i=>(#[(0,1),(1,8),(9,8)]:Array (Nat×Nat))[i]?) ([.pointer none,.int .i64 0,.int .i64 0,.int .i64 0,.int .i64 0,.int .i64 0,.int .i64 0,.int .i64 0,.slice none 0 0,.int .i64 0,.int .i64 0,.int .i64 0,.int .i64 0,.int .i64 0,.int .i64 0,.int .i64 0,.slice none 0 0]:List Value).toArray ps:=by intro ps;kernel_rfl
theorem jT:([.pointer none,.int .i64 0,.int .i64 0,.int .i64 0,.int .i64 0,.int .i64 0,.int .i64 0,.int .i64 0,.slice none 0 0,.int .i64 0,.int .i64 0,.int .i64 0,.int .i64 0,.int .i64 0,.int .i64 0,.int .i64 0,.slice none 0 0]:List Value).all (·.oneCell')=true:=by kernel_rfl
theorem HS:Ag Tryz.prog 159 0=some 0:=by kernel_rfl
theorem DY:Ag Tryz.prog 159 1=some 1:=by kernel_rfl
theorem Y1:Ag Tryz.prog 159 2=some 9:=by kernel_rfl
theorem JG:Ap Tryz.prog 160=some 1:=by kernel_rfl
theorem Gu:FA Tryz.prog 160=true:=by kernel_rfl
theorem bP:Ap Tryz.prog 161=some 13:=by kernel_rfl
theorem dQ:FJ Tryz.prog 161=true:=by kernel_rfl
theorem jU:∀ps,Tryz.prog.built 161 ps=Instr.fill (fun i=>some (i*1,1)) ((List.replicate 13 (.nilFunc)):List Value).toArray ps:=by intro ps;kernel_rfl
theorem bQ:((List.replicate 13 (.nilFunc)):List Value).all (·.oneCell')=true:=by kernel_rfl
theorem ot:Bh Tryz.prog 161=some (List.replicate 13 (.nilFunc)):=by kernel_rfl
theorem Fu:Ap Tryz.prog 170=some 12:=by kernel_rfl
theorem IQ:FJ Tryz.prog 170=true:=by kernel_rfl
theorem Tf:∀ps,Tryz.prog.built 170 ps=Instr.fill (fun i=>(#[(0,1),(1,1),(2,2),(4,2),(6,2),(8,2),(10,1),(11,1)]:Array (Nat×Nat))[i]?) ([.int .i64 0,.string (ByteArray.mk #[]),.int .i64 0,.int .i64 0,.int .i64 0,.int .i64 0,.int .i64 0,.int .i64 0,.int .i64 0,.int .i64 0,.int .i64 0,.int .i64 0]:List Value).toArray ps:=by intro ps;kernel_rfl
theorem J8:([.int .i64 0,.string (ByteArray.mk #[]),.int .i64 0,.int .i64 0,.int .i64 0,.int .i64 0,.int .i64 0,.int .i64 0,.int .i64 0,.int .i64 0,.int .i64 0,.int .i64 0]:List Value).all (·.oneCell')=true:=by kernel_rfl
theorem R8:Bh Tryz.prog 170=some [.int .i64 0,.string (ByteArray.mk #[]),.int .i64 0,.int .i64 0,.int .i64 0,.int .i64 0,.int .i64 0,.int .i64 0,.int .i64 0,.int .i64 0,.int .i64 0,.int .i64 0]:=by kernel_rfl
theorem Y2:Ag Tryz.prog 170 0=some 0:=by kernel_rfl
theorem jV:Ap Tryz.prog 198=some 1:=by kernel_rfl
theorem V7:FA Tryz.prog 198=true:=by kernel_rfl
theorem bR:Ap Tryz.prog 209=some 2:=by kernel_rfl
theorem jW:∀ps,Tryz.prog.built 209 ps=Instr.fill (fun i=>(#[(0,1),(1,1)]:Array (Nat×Nat))[i]?) ([.string (ByteArray.mk #[]),.int .i64 0]:List Value).toArray ps:=by intro ps;kernel_rfl
theorem bS:([.string (ByteArray.mk #[]),.int .i64 0]:List Value).all (·.oneCell')=true:=by kernel_rfl
theorem ou:Bh Tryz.prog 209=some [.string (ByteArray.mk #[]),.int .i64 0]:=by kernel_rfl
theorem Y3:Ag Tryz.prog 209 1=some 1:=by kernel_rfl
theorem jX:Ap Tryz.prog 221=some 1:=by kernel_rfl
theorem PK:FA Tryz.prog 221=true:=by kernel_rfl
theorem CX:Ap Tryz.prog 223=some 4:=by kernel_rfl
theorem C9:FJ Tryz.prog 223=true:=by kernel_rfl
theorem bT:CI Tryz.prog 223=some 64:=by kernel_rfl
theorem V8:∀ps,Tryz.prog.built 223 ps=Instr.fill (fun i=>(#[(0,1),(1,1),(2,1),(3,1)]:Array (Nat×Nat))[i]?) ([.int .i64 0,.slice none 0 0,.bool false,.slice none 0 0]:List Value).toArray ps:=by intro ps;kernel_rfl
theorem JH:([.int .i64 0,.slice none 0 0,.bool false,.slice none 0 0]:List Value).all (·.oneCell')=true:=by kernel_rfl
theorem Kt:Bh Tryz.prog 223=some [.int .i64 0,.slice none 0 0,.bool false,.slice none 0 0]:=by kernel_rfl
theorem Y4:Ag Tryz.prog 223 0=some 0:=by kernel_rfl
theorem PL:Ag Tryz.prog 223 1=some 1:=by kernel_rfl
theorem Y5:Ag Tryz.prog 223 2=some 2:=by kernel_rfl
theorem J9:Ag Tryz.prog 223 3=some 3:=by kernel_rfl
theorem ON:Ap Tryz.prog 244=some 5:=by kernel_rfl
theorem PM:FJ Tryz.prog 244=true:=by kernel_rfl
theorem D6:∀ps,Tryz.prog.built 244 ps=Instr.fill (fun i=>(#[(0,1),(1,1),(2,1),(3,1),(4,1)]:Array (Nat×Nat))[i]?) ([.string (ByteArray.mk #[]),.int .i64 0,.int .i64 0,.slice none 0 0,.slice none 0 0]:List Value).toArray ps:=by intro ps;kernel_rfl
theorem Di:([.string (ByteArray.mk #[]),.int .i64 0,.int .i64 0,.slice none 0 0,.slice none 0 0]:List Value).all (·.oneCell')=true:=by kernel_rfl
theorem dR:Bh Tryz.prog 244=some [.string (ByteArray.mk #[]),.int .i64 0,.int .i64 0,.slice none 0 0,.slice none 0 0]:=by kernel_rfl
theorem Y6:Ag Tryz.prog 244 1=some 1:=by kernel_rfl
theorem Y7:Ag Tryz.prog 244 2=some 2:=by kernel_rfl
theorem Y8:Ag Tryz.prog 244 3=some 3:=by kernel_rfl
theorem Y9:Ag Tryz.prog 244 4=some 4:=by kernel_rfl
theorem bU:Ap Tryz.prog 272=some 115:=by kernel_rfl
theorem dS:FJ Tryz.prog 272=true:=by kernel_rfl
theorem jY:∀ps,Tryz.prog.built 272 ps=Instr.fill (fun i=>some (i*5,5)) ([.string (ByteArray.mk #[]),.int .i64 0,.int .i64 0,.slice none 0 0,.slice none 0 0,.string (ByteArray.mk #[]),.int .i64 0,.int .i64 0,.slice none 0 0,.slice none 0 0,.string (ByteArray.mk #[]),.int .i64 0,.int .i64 0,.slice none 0 0,.slice none 0 0,.string (ByteArray.mk #[]),.int .i64 0,.int .i64 0,.slice none 0 0,.slice none 0 0,.string (ByteArray.mk #[]),.int .i64 0,.int .i64 0,.slice none 0 0,.slice none 0 0,.string (ByteArray.mk #[]),.int .i64 0,.int .i64 0,.slice none 0 0,.slice none 0 0,.string (ByteArray.mk #[]),.int .i64 0,.int .i64 0,.slice none 0 0,.slice none 0 0,.string (ByteArray.mk #[]),.int .i64 0,.int .i64 0,.slice none 0 0,.slice none 0 0,.string (ByteArray.mk #[]),.int .i64 0,.int .i64 0,.slice none 0 0,.slice none 0 0,.string (ByteArray.mk #[]),.int .i64 0,.int .i64 0,.slice none 0 0,.slice none 0 0,.string (ByteArray.mk #[]),.int .i64 0,.int .i64 0,.slice none 0 0,.slice none 0 0,.string (ByteArray.mk #[]),.int .i64 0,.int .i64 0,.slice none 0 0,.slice none 0 0,.string (ByteArray.mk #[]),.int .i64 0,.int .i64 0,.slice none 0 0,.slice none 0 0,.string (ByteArray.mk #[]),.int .i64 0,.int .i64 0,.slice none 0 0,.slice none 0 0,.string (ByteArray.mk #[]),.int .i64 0,.int .i64 0,.slice none 0 0,.slice none 0 0,.string (ByteArray.mk #[]),.int .i64 0,.int .i64 0,.slice none 0 0,.slice none 0 0,.string (ByteArray.mk #[]),.int .i64 0,.int .i64 0,.slice none 0 0,.slice none 0 0,.string (ByteArray.mk #[]),.int .i64 0,.int .i64 0,.slice none 0 0,.slice none 0 0,.string (ByteArray.mk #[]),.int .i64 0,.int .i64 0,.slice none 0 0,.slice none 0 0,.string (ByteArray.mk #[]),.int .i64 0,.int .i64 0,.slice none 0 0,.slice none 0 0,.string (ByteArray.mk #[]),.int .i64 0,.int .i64 0,.slice none 0 0,.slice none 0 0,.string (ByteArray.mk #[]),.int .i64 0,.int .i64 0,.slice none 0 0,.slice none 0 0,.string (ByteArray.mk #[]),.int .i64 0,.int .i64 0,.slice none 0 0,.slice none 0 0]:List Value).toArray ps:=by intro ps;kernel_rfl
theorem bV:([.string (ByteArray.mk #[]),.int .i64 0,.int .i64 0,.slice none 0 0,.slice none 0 0,.string (ByteArray.mk #[]),.int .i64 0,.int .i64 0,.slice none 0 0,.slice none 0 0,.string (ByteArray.mk #[]),.int .i64 0,.int .i64 0,.slice none 0 0,.slice none 0 0,.string (ByteArray.mk #[]),.int .i64 0,.int .i64 0,.slice none 0 0,.slice none 0 0,.string (ByteArray.mk #[]),.int .i64 0,.int .i64 0,.slice none 0 0,.slice none 0 0,.string (ByteArray.mk #[]),.int .i64 0,.int .i64 0,.slice none 0 0,.slice none 0 0,.string (ByteArray.mk #[]),.int .i64 0,.int .i64 0,.slice none 0 0,.slice none 0 0,.string (ByteArray.mk #[]),.int .i64 0,.int .i64 0,.slice none 0 0,.slice none 0 0,.string (ByteArray.mk #[]),.int .i64 0,.int .i64 0,.slice none 0 0,.slice none 0 0,.string (ByteArray.mk #[]),.int .i64 0,.int .i64 0,.slice none 0 0,.slice none 0 0,.string (ByteArray.mk #[]),.int .i64 0,.int .i64 0,.slice none 0 0,.slice none 0 0,.string (ByteArray.mk #[]),.int .i64 0,.int .i64 0,.slice none 0 0,.slice none 0 0,.string (ByteArray.mk #[]),.int .i64 0,.int .i64 0,.slice none 0 0,.slice none 0 0,.string (ByteArray.mk #[]),.int .i64 0,.int .i64 0,.slice none 0 0,.slice none 0 0,.string (ByteArray.mk #[]),.int .i64 0,.int .i64 0,.slice none 0 0,.slice none 0 0,.string (ByteArray.mk #[]),.int .i64 0,.int .i64 0,.slice none 0 0,.slice none 0 0,.string (ByteArray.mk #[]),.int .i64 0,.int .i64 0,.slice none 0 0,.slice none 0 0,.string (ByteArray.mk #[]),.int .i64 0,.int .i64 0,.slice none 0 0,.slice none 0 0,.string (ByteArray.mk #[]),.int .i64 0,.int .i64 0,.slice none 0 0,.slice none 0 0,.string (ByteArray.mk #[]),.int .i64 0,.int .i64 0,.slice none 0 0,.slice none 0 0,.string (ByteArray.mk #[]),.int .i64 0,.int .i64 0,.slice none 0 0,.slice none 0 0,.string (ByteArray.mk #[]),.int .i64 0,.int .i64 0,.slice none 0 0,.slice none 0 0,.string (ByteArray.mk #[]),.int .i64 0,.int .i64 0,.slice none 0 0,.slice none 0 0]:List Value).all (·.oneCell')=true:=by kernel_rfl
theorem ox:Bh Tryz.prog 272=some [.string (ByteArray.mk #[]),.int .i64 0,.int .i64 0,.slice none 0 0,.slice none 0 0,.string (ByteArray.mk #[]),.int .i64 0,.int .i64 0,.slice none 0 0,.slice none 0 0,.string (ByteArray.mk #[]),.int .i64 0,.int .i64 0,.slice none 0 0,.slice none 0 0,.string (ByteArray.mk #[]),.int .i64 0,.int .i64 0,.slice none 0 0,.slice none 0 0,.string (ByteArray.mk #[]),.int .i64 0,.int .i64 0,.slice none 0 0,.slice none 0 0,.string (ByteArray.mk #[]),.int .i64 0,.int .i64 0,.slice none 0 0,.slice none 0 0,.string (ByteArray.mk #[]),.int .i64 0,.int .i64 0,.slice none 0 0,.slice none 0 0,.string (ByteArray.mk #[]),.int .i64 0,.int .i64 0,.slice none 0 0,.slice none 0 0,.string (ByteArray.mk #[]),.int .i64 0,.int .i64 0,.slice none 0 0,.slice none 0 0,.string (ByteArray.mk #[]),.int .i64 0,.int .i64 0,.slice none 0 0,.slice none 0 0,.string (ByteArray.mk #[]),.int .i64 0,.int .i64 0,.slice none 0 0,.slice none 0 0,.string (ByteArray.mk #[]),.int .i64 0,.int .i64 0,.slice none 0 0,.slice none 0 0,.string (ByteArray.mk #[]),.int .i64 0,.int .i64 0,.slice none 0 0,.slice none 0 0,.string (ByteArray.mk #[]),.int .i64 0,.int .i64 0,.slice none 0 0,.slice none 0 0,.string (ByteArray.mk #[]),.int .i64 0,.int .i64 0,.slice none 0 0,.slice none 0 0,.string (ByteArray.mk #[]),.int .i64 0,.int .i64 0,.slice none 0 0,.slice none 0 0,.string (ByteArray.mk #[]),.int .i64 0,.int .i64 0,.slice none 0 0,.slice none 0 0,.string (ByteArray.mk #[]),.int .i64 0,.int .i64 0,.slice none 0 0,.slice none 0 0,.string (ByteArray.mk #[]),.int .i64 0,.int .i64 0,.slice none 0 0,.slice none 0 0,.string (ByteArray.mk #[]),.int .i64 0,.int .i64 0,.slice none 0 0,.slice none 0 0,.string (ByteArray.mk #[]),.int .i64 0,.int .i64 0,.slice none 0 0,.slice none 0 0,.string (ByteArray.mk #[]),.int .i64 0,.int .i64 0,.slice none 0 0,.slice none 0 0,.string (ByteArray.mk #[]),.int .i64 0,.int .i64 0,.slice none 0 0,.slice none 0 0]:=by kernel_rfl
theorem bW:Ap Tryz.prog 292=some 2:=by kernel_rfl
theorem dU:FJ Tryz.prog 292=true:=by kernel_rfl
theorem jZ:∀ps,Tryz.prog.built 292 ps=Instr.fill (fun i=>some (i*1,1)) ((List.replicate 2 (.int .i64 0)):List Value).toArray ps:=by intro ps;kernel_rfl
theorem bX:((List.replicate 2 (.int .i64 0)):List Value).all (·.oneCell')=true:=by kernel_rfl
theorem oy:Bh Tryz.prog 292=some (List.replicate 2 (.int .i64 0)):=by kernel_rfl
theorem jc:∀ps,Tryz.prog.built 293 ps=Instr.fill (fun i=>some (i*2,2)) ((List.replicate 10 (.int .i64 0)):List Value).toArray ps:=by intro ps;kernel_rfl
theorem jd:((List.replicate 10 (.int .i64 0)):List Value).all (·.oneCell')=true:=by kernel_rfl
end Go.Proofs.YtppeeogffbpcbaaGreat
namespace Cp
open Go Go.RowKit Go.Great
section
variable {P:Program} {L:Lg P} {n:Fm} {fz:Nat} {E:Env} {M0:Av} {w0:World} {S:Nat→Prop} {rs:List BO} {o:Oper}
def lens (m:Nat):Pr where
 h _ _ v:=∃a c,v= .slice a m c
 st _M _w _M' _w' _v _ h:=h
instance je (m:Nat):One (lens m):=⟨by rintro M w v ⟨a,c,rfl⟩;exact ⟨rfl,rfl⟩⟩
def C_ (e:TypeId) (sz:Nat) (rows:List (List Pr)) (v:Value):BO where
 IB:=match v with| .slice (some a) _ _=>some a.block|_=>none
 new:=true
 h M w:=∃(b cap:Nat) (spare:List Value),v= .slice (some ⟨b,0,none⟩) rows.length cap∧rows.length≤cap∧cap≤maxLen∧spare.length=(cap-rows.length)*sz∧(AE true b e (rows.flatten++spare.map is)).h M w
 st M w M' w' he hk h:=by
  obtain ⟨b,cap,spare,rfl,h1,h2,h3,h4⟩:=h
  exact ⟨b,cap,spare,rfl,h1,h2,h3,(AE true b e _).st _ _ _ _ he hk h4⟩
theorem HT {sz:Nat}:∀{rows:List (List Pr)} {i j:Nat} {row:List Pr},(∀r∈rows,r.length=sz)→rows[i]? =some row→j<sz→rows.flatten[i*sz+j]? =row[j]?
 |[],_,_,_,_,h,_=>by simp at h
 |a::l,0,j,row,hl,h,hj=>by
  simp at h;subst h
  have:=hl a (by simp)
  rw [List.flatten_cons,Nat.zero_mul,Nat.zero_add,List.getElem?_append_left (by omega)]
 |a::l,i+1,j,row,hl,h,hj=>by
  have h1:=hl a (by simp)
  rw [List.flatten_cons,Nat.succ_mul,List.getElem?_append_right (by omega),h1,show i*sz+sz+j-sz=i*sz+j by omega]
  exact HT (fun r hr=>hl r (List.mem_cons_of_mem _ hr)) (by simpa using h) hj
theorem CY {sz:Nat}:∀{rows:List (List Pr)},(∀r∈rows,r.length=sz)→rows.flatten.length=rows.length*sz
 |[],_=>by simp
 |a::l,h=>by
  rw [List.flatten_cons,List.length_append,CY (fun r hr=>h r (List.mem_cons_of_mem _ hr)),h a (by simp),List.length_cons,Nat.succ_mul];omega
theorem Qh {M:Av} {w:World}:∀{ps:List Pr} {vs:List Value},vs.length=ps.length→(∀(k:Nat) p,ps[k]? =some p→∃u,vs[k]? =some u∧p.h M w u)→HL M w ps vs
 |[],[],_,_=>trivial
 |[],_::_,h,_=>by simp at h
 |_::_,[],h,_=>by simp at h
 |p::ps,v::vs,h,hk=>by
  refine ⟨?_,Qh (by simpa using h) fun k q hq=>by simpa using hk (k+1) q (by simpa using hq)⟩
  obtain ⟨u,hu,hp⟩:=hk 0 p rfl
  simp at hu;subst hu;exact hp
theorem Flat.hl {M:Av} {w:World} {sz:Nat} {rows:List (List Pr)} {news:List Value} (hsz:0<sz) (h:Flat M w sz rows news):HL M w rows.flatten news:=by
 have hl:∀r∈rows,r.length=sz:=fun r hr=>by obtain ⟨i,hi⟩:=List.mem_iff_getElem?.1 hr;exact (h.2.2 i r hi).1
 refine Qh (by rw [h.1,CY hl]) fun k p hk=> ?_
 have O9:k<rows.length*sz:=by rw [←CY hl];rcases Nat.lt_or_ge k rows.flatten.length with h|h;exact h;rw [List.getElem?_eq_none h] at hk;cases hk
 have hi:k/sz<rows.length:=Nat.div_lt_of_lt_mul (by rw [Nat.mul_comm];exact O9)
 have hj:k % sz<sz:=Nat.mod_lt _ hsz
 have he:k/sz*sz+k % sz=k:=by rw [Nat.mul_comm];exact Nat.div_add_mod k sz
 have hr:=List.getElem?_eq_getElem hi
 rw [←he,HT hl hr hj] at hk
 obtain ⟨u,hu,hp⟩:=(h.2.2 _ _ hr).2 _ p hk
 exact ⟨u,by rw [←he];exact hu,hp⟩
theorem HL.flat {M:Av} {w:World} {sz:Nat} {rows:List (List Pr)} {qs:List Pr} {cs:List Value} (hl:∀r∈rows,r.length=sz) (h:HL M w (rows.flatten++qs) cs) (h1:∀c∈cs,c.oneCell'=true):Flat M w sz rows (cs.take (rows.length*sz)):=by
 have hfl:=CY hl
 have hlen:=h.length
 refine ⟨by rw [List.length_take,hlen,List.length_append,hfl];omega,fun u hu=>h1 u (List.mem_of_mem_take hu),fun i row hi=> ?_⟩
 have hrl:=hl row (List.mem_of_getElem? hi)
 refine ⟨hrl,fun j p hp=> ?_⟩
 have hjl:j<sz:=by rw [←hrl];rcases Nat.lt_or_ge j row.length with h|h;exact h;rw [List.getElem?_eq_none h] at hp;cases hp
 have EO:i<rows.length:=by rcases Nat.lt_or_ge i rows.length with h|h;exact h;rw [List.getElem?_eq_none h] at hi;cases hi
 have hlt:i*sz+j<rows.length*sz:=by have:(i+1)*sz≤rows.length*sz:=Nat.mul_le_mul_right sz EO;rw [Nat.add_mul] at this;omega
 obtain ⟨u,hu,hh⟩:=h.at_ (i*sz+j) p (by rw [List.getElem?_append_left (by rw [hfl];exact hlt),HT hl hi hjl];exact hp)
 exact ⟨u,by rw [List.getElem?_take,if_pos hlt];exact hu,hh⟩
theorem Dw {zs:List Value} {z:Array Value} {k:Nat} (hz:z.toList=zs) (h1:zs.all (·.oneCell')=true):∀c∈(Builtin.zeroCells z k).toList,c.oneCell'=true:=by
 intro c hc
 simp only [Builtin.zeroCells,Array.toList_map,Array.toList_range,List.mem_map,List.mem_range] at hc
 obtain ⟨i,hi,rfl⟩:=hc
 have hpos:0<z.size:=by rcases Nat.eq_zero_or_pos z.size with h|h;rw [h] at hi;simp at hi;exact h
 have hm:i % z.size<z.size:=Nat.mod_lt _ hpos
 rw [getElem!_pos z _ hm]
 exact List.all_eq_true.1 h1 _ (by rw [←hz];simp)
theorem Y_ {M:Av} {w:World} {t ty e:TypeId} {sz bytes:Nat} {zs:List Value} {rows:List (List Pr)} {u:Value} {j:Nat} (ht:P.underlying t=some (.slice e)) (hz:Ap P e=some sz) (hby:CI P e=some bytes) (C6:Bh P e=some zs) (hzl:zs.length=sz) (hone:zs.all (·.oneCell')=true) (hsz:0<sz)
  (h:BU M0 w0 S rs M w) (hj:rs[j]? =some Bm) (hu:(slice sz rows).h M w u) (hpos:0<rows.length) (EB:rows.length≤maxLen) (hfit:rows.length*bytes≤140737488355328):
  ∃v' w' M',(Builtin.append_ #[t,t] ty #[.slice none 0 0,u]).run P w= .ok v' w'∧(lens rows.length).h M' w' v'∧Ext M w M' w'∧BU M0 w0 S (rs.set j (C_ e sz rows v')) M' w':=by
 unfold Ap at hz
 unfold CI at hby
 unfold Bh at C6
 cases hi:P.info? e with
 |none=>rw [hi] at hz;cases hz
 |some i=>
  rw [hi] at hz hby C6
  simp only [Option.map_some,Option.some.injEq,Option.map_eq_some_iff] at hz hby C6
  obtain ⟨z,OG,C6⟩:=C6
  have Rl:z.cells.size=sz:=by rw [←hzl,←C6];simp
  obtain ⟨A',c',rfl,Vm,Mq,UT,D0⟩:=hu
  have IA:(slice sz rows).h M w (.slice A' rows.length c'):=⟨A',c',rfl,Vm,Mq,UT,D0⟩
  obtain ⟨JA,rfl⟩:∃JA,A'=some JA:=by
   obtain ⟨_,b,hb,_⟩:=D0 0 _ (List.getElem?_eq_getElem hpos)
   exact ⟨b,hb⟩
  obtain ⟨news,hfl,hcell⟩:=Dq hsz IA
  have hrun:=run_append_nil (P:=P) w t ty e i z ht hi OG JA rows.length c' news (by rw [hz];exact hfl.1) (fun k u hk=>(hcell k u hk).1) hpos (by unfold maxLen at EB;omega) (by rw [hby];omega)
  generalize hcap:grownCap w rows.length 0 e=cap at hrun
  have hge:rows.length≤cap:=by rw [←hcap];exact grownCap_ge _ _ _ _
  have hle:cap≤maxLen:=by rw [←hcap];exact grownCap_le_maxLen _ _ _ _ EB
  generalize Nx:Builtin.zeroCells z.cells (cap-rows.length)=zc at hrun
  have hzs:zc.size=(cap-rows.length)*sz:=by rw [←Nx,size_zeroCells,Rl]
  have jf:∀c∈zc.toList,c.oneCell'=true:=by rw [←Nx];exact Dw C6 hone
  have hb:Below w.heap.size w (w.drew.alloc (.cells (news.toArray++zc) e)):=((Below.refl _ _).drew).alloc (Nat.le_refl _) _
  have h2:=Ext.below (M:=M) hb
  have DV:Ext M w (fun b o=>M b o∨b=w.heap.size) (w.drew.alloc (.cells (news.toArray++zc) e)):=by
   refine ⟨h2.size,fun a v hc hm=>⟨fun hx=> ?_,(h2.keep a v hc hm).2⟩,fun b o ho hp hm=>⟨fun hx=> ?_,(h2.obj b o ho hp hm).2⟩⟩
   ·
    rcases hx with hx|hx
    · exact hm hx
    · have:=D3 hc;omega
   ·
    rcases hx with hx|hx
    · exact hm hx
    · subst hx;simp at ho
  have hs1:(w.drew.alloc (.cells (news.toArray++zc) e)).heap.size=w.heap.size+1:=by simp
  refine ⟨_,_,fun b o=>M b o∨b=w.heap.size,hrun,⟨_,_,rfl⟩,DV,?_⟩
  refine h.replace hj DV hb.os hb.tape hb.output (fun k hk _=>hb.block k hk) rfl (fun b o hm _=> .inl hm) (fun b o hx=> ?_) ?_ rfl (fun b hbk=> ?_)
  ·
   rcases hx with hx|hx
   · have:=h.bd _ _ hx;omega
   · omega
  ·
   refine ⟨w.heap.size,cap,zc.toList,rfl,hge,hle,by simpa using hzs,fun o=> .inr rfl,news++zc.toList,?_,?_,?_⟩
   ·
    have hh:(w.drew.alloc (.cells (news.toArray++zc) e)).heap[w.heap.size]? =some (.cells (news.toArray++zc) e (0,0)):=heap_alloc_new w.drew _
    rw [hh];simp
   · exact ((hfl.st DV).hl hsz).app (LM _ _ _)
   ·
    intro c hc
    rcases List.mem_append.1 hc with hc|hc
    · exact hfl.2.1 c hc
    · exact jf c hc
  ·
   have EX:some w.heap.size=some b:=hbk
   injection EX with e1
   subst e1
   exact ⟨by rw [hs1];omega,.inr (Nat.le_refl _)⟩
theorem St.M8 {e:TypeId} {sz:Nat} {rows:List (List Pr)} {v:Value} (j:Nat) (hj:rs[j]? =some (C_ e sz rows v)) {a:Act} {w:World} (h:St n E (Hp M0 w0 S rs) a w):
  ∃(b cap:Nat) (spare:List Value),v= .slice (some ⟨b,0,none⟩) rows.length cap∧rows.length≤cap∧cap≤maxLen∧spare.length=(cap-rows.length)*sz∧St n E (Hp M0 w0 S (rs.set j (AE true b e (rows.flatten++spare.map is)))) a w:=by
 obtain ⟨M,h1,h2,h3,h4⟩:=h
 have h4:BU M0 w0 S rs M w:=h4
 obtain ⟨b,cap,spare,rfl,h5,h6,h7,h8⟩:=(h4.hold _ (List.mem_of_getElem? hj)).1
 exact ⟨b,cap,spare,rfl,h5,h6,h7,M,h1,h2,h3,h4.Db hj rfl rfl h8⟩
theorem Tr.M8 {Q:Exit→Act→World→Prop} {c:Code} {e:TypeId} {sz:Nat} {rows:List (List Pr)} {v:Value} (j:Nat) (hj:rs[j]? =some (C_ e sz rows v))
  (k:∀(b cap:Nat) (spare:List Value),v= .slice (some ⟨b,0,none⟩) rows.length cap→rows.length≤cap→cap≤maxLen→spare.length=(cap-rows.length)*sz→Tr L n E (Hp M0 w0 S (rs.set j (AE true b e (rows.flatten++spare.map is)))) c Q):Tr L n E (Hp M0 w0 S rs) c Q:=
 fun a w hs=>let ⟨b,cap,spare,h1,h2,h3,h4,h5⟩:=hs.M8 j hj;k b cap spare h1 h2 h3 h4 a w h5
theorem Fin.M8 {Q:Exit→Act→World→Prop} {ex:Exit} {e:TypeId} {sz:Nat} {rows:List (List Pr)} {v:Value} (j:Nat) (hj:rs[j]? =some (C_ e sz rows v))
  (k:∀(b cap:Nat) (spare:List Value),v= .slice (some ⟨b,0,none⟩) rows.length cap→rows.length≤cap→cap≤maxLen→spare.length=(cap-rows.length)*sz→Fin n E (Hp M0 w0 S (rs.set j (AE true b e (rows.flatten++spare.map is)))) Q ex):Fin n E (Hp M0 w0 S rs) Q ex:=
 fun a w hs=>let ⟨b,cap,spare,h1,h2,h3,h4,h5⟩:=hs.M8 j hj;k b cap spare h1 h2 h3 h4 a w h5
theorem BU.ZA {M:Av} {w:World} {b cap sz:Nat} {e:TypeId} {rows:List (List Pr)} {qs:List Pr} {j:Nat} (h:BU M0 w0 S rs M w) (hj:rs[j]? =some (AE true b e (rows.flatten++qs))) (hl:∀r∈rows,r.length=sz) (hc:rows.length≤cap) (hm:cap≤maxLen) (hq:qs.length=(cap-rows.length)*sz):
  ∃M',Ext M w M' w∧BU M0 w0 S (rs.set j (BJ e sz (.slice (some ⟨b,0,none⟩) rows.length cap))) M' w∧(slice sz rows).h M' w (.slice (some ⟨b,0,none⟩) rows.length cap):=by
 obtain ⟨⟨hM,cs,hh,hcs,hone⟩,bE⟩:=h.hold _ (List.mem_of_getElem? hj)
 have jg:=(bE b rfl).1
 have hfl:=HL.flat hl hcs hone
 have hlen:=hcs.length
 rw [List.length_append,CY hl,hq,←Nat.add_mul,show rows.length+(cap-rows.length)=cap by omega] at hlen
 have he:Ext M w (fun b' o=>M b' o∧¬(b'=b∧o<rows.length*sz)) w:=Ext.less fun _ _ h=>h.1
 refine ⟨_,he,?_,Ed (hfl.st he) hc hm fun k u hk=> ?_⟩
 ·
  refine h.replace hj he rfl rfl rfl (fun _ _ _=>rfl) rfl (fun b' o hm' hne=>⟨hm',fun hx=>hne (by rw [hx.1];rfl)⟩) (fun b' o hx=>h.bd _ _ hx.1) ?_ rfl (fun b' hbk=> ?_)
  ·
   intro a' n' c' hv hlt
   injection hv with e1 e2 e3
   injection e1 with e1
   subst e1;subst e2;subst e3
   refine ⟨⟨cs.take (rows.length*sz),hfl.1,.inr ⟨b,cap,cs.toArray,rfl,Nat.zero_le _,hh,hc,hm,by simpa using hlen,by simp⟩⟩,fun o ho=>⟨hM o,fun hx=>by omega⟩⟩
  ·
   have EX:Cu (.slice (some ⟨b,0,none⟩) rows.length cap)=some b':=hbk
   simp only [Cu] at EX
   split at EX
   · simp at EX;subst EX;exact ⟨jg,.inl rfl⟩
   · cases EX
 ·
  have O9:k<rows.length*sz:=by rw [←hfl.1];rcases Nat.lt_or_ge k (cs.take (rows.length*sz)).length with h|h;exact h;rw [List.getElem?_eq_none h] at hk;cases hk
  rw [List.getElem?_take,if_pos O9] at hk
  exact ⟨by simp [World.cell?,hh,hk],fun hx=>hx.2 ⟨rfl,O9⟩⟩
end
abbrev str (l:List UInt8):Pr:=is (.string ⟨l.toArray⟩)
theorem JW (l:List UInt8):(ByteArray.mk l.toArray).toList=l:=by rw [ByteArray.toList_eq]
theorem IU (l:List UInt8):(ByteArray.mk l.toArray).size=l.length:=rfl
section
variable {P:Program} {L:Lg P} {E:Env} {I:Ca} {o:Oper}
theorem dV {t u:TypeId} {x y:Operand} {a b:List UInt8} (ho:o.op= .binOp .eql t x y u) (hx:VL E x (str a)) (hy:VL E y (str b)):Ad P I o E (bool (decide (a=b))):=
 Ad.same fun M w ac he _=>by
  have h1:ac.eval x=_:=hx.ev he (by simp [ho,Op.operands])
  have h2:ac.eval y=_:=hy.ev he (by simp [ho,Op.operands])
  refine ⟨_,by simp [execOp,ho,h1,h2,eqGuard,binOp,Op.stringOp,JW];rfl,?_⟩
  show Value.bool _=Value.bool _
  congr 1
  rw [Bool.eq_iff_iff];simp
theorem dW {t u:TypeId} {x y:Operand} {a b:List UInt8} (ho:o.op= .binOp .neq t x y u) (hx:VL E x (str a)) (hy:VL E y (str b)):Ad P I o E (bool (!decide (a=b))):=
 Ad.same fun M w ac he _=>by
  have h1:ac.eval x=_:=hx.ev he (by simp [ho,Op.operands])
  have h2:ac.eval y=_:=hy.ev he (by simp [ho,Op.operands])
  refine ⟨_,by simp [execOp,ho,h1,h2,eqGuard,binOp,Op.stringOp,JW];rfl,?_⟩
  show Value.bool _=Value.bool _
  congr 1
  rw [Bool.eq_iff_iff];simp
theorem Qi:∀(a b:List UInt8),Op.bytesLess a b=decide (Lib.compareBytes a b= -1)
 |_,[]=>by cases ‹List UInt8›<;>simp [Op.bytesLess,Lib.compareBytes]
 |[],_::_=>by simp [Op.bytesLess,Lib.compareBytes]
 |a::x,b::y=>by
  rw [Op.bytesLess,Qi x y,Lib.compareBytes]
  by_cases h1:a<b
  · simp [h1]
  ·
   by_cases h2:b<a
   ·
    have h3:a≠b:=fun e=>by subst e;exact h1 h2
    simp [h1,h2,h3]
   ·
    have h3:a=b:=UInt8.le_antisymm (UInt8.not_lt.1 h2) (UInt8.not_lt.1 h1)
    simp [h1,h2,h3]
theorem JX {t u:TypeId} {x y:Operand} {a b:List UInt8} (ho:o.op= .binOp .geq t x y u) (hx:VL E x (str a)) (hy:VL E y (str b)):Ad P I o E (bool (!decide (Lib.compareBytes a b= -1))):=
 Ad.same fun M w ac he _=>by
  have h1:ac.eval x=_:=hx.ev he (by simp [ho,Op.operands])
  have h2:ac.eval y=_:=hy.ev he (by simp [ho,Op.operands])
  exact ⟨_,by simp [execOp,ho,h1,h2,eqGuard,binOp,Op.stringOp,JW,Qi],rfl⟩
theorem ZB {t:TypeId} {x:Operand} {a:List UInt8} (ho:o.op= .call { callee:= .builtin .len,args:= #[x],argTypes:= #[t] }) (ht:P.underlying t=some .string) (hx:VL E x (str a)):Ad P I o E (int ((a.length:Nat):Int)):=
 Ad.same fun M w ac he _=>by
  have h1:ac.eval x=_:=hx.ev he (by simp [ho,Op.operands,Call.operands])
  exact ⟨.int .i64 a.length,by simp [execOp,ho,resolve,invoke,builtin,Builtin.len_,h1,run_underlying ht,goInt,IU],rfl⟩
theorem PN {t:TypeId} {x y:Operand} {k:IntKind} {a:List UInt8} {i:Int} {c:UInt8} (ho:o.op= .index t x y) (ht:P.underlying t=some .string) (hx:VL E x (str a)) (hy:VL E y (is (.int k i))) (h0:0≤i) (hc:a[i.toNat]? =some c):Ad P I o E (is (.int .u8 c.toNat)):=
 Ad.same fun M w ac he _=>by
  have h1:ac.eval x=_:=hx.ev he (by simp [ho,Op.operands])
  have h2:ac.eval y=_:=hy.ev he (by simp [ho,Op.operands])
  refine ⟨_,?_,rfl⟩
  have hlt:i.toNat<a.length:=by rcases Nat.lt_or_ge i.toNat a.length with h|h;exact h;rw [List.getElem?_eq_none h] at hc;cases hc
  have h3:(ByteArray.mk a.toArray)[i.toNat]? =some c:=by
   rw [getElem?_pos (ByteArray.mk a.toArray) i.toNat (by rw [IU];exact hlt)]
   rw [List.getElem?_eq_getElem hlt] at hc
   simp only [Option.some.injEq] at hc
   rw [←hc]
   rfl
  simp [execOp,ho,h1,h2,Instr.index,asIntOf,run_underlying ht,h0,h3]
theorem M9 {s t e:TypeId} {x:Operand} {a:List UInt8} (ho:o.op= .convert s t x) (hs:P.underlying s=some .string) (ht:P.underlying t=some (.slice e)) (he:P.underlying e=some (.int .u8)) (hx:VL E x (str a)) (hm:a.length≤maxLen):Ad P I o E (slice 1 (a.map fun c=>[is (.int .u8 c.toNat)])):=
 Ad.val fun M w ac dX hI=>by
  have h1:ac.eval x=_:=hx.ev dX (by simp [ho,Op.operands])
  have hrun:=Lib.run_convert_string_bytes (P:=P) w s t e ⟨a.toArray⟩ hs ht he
  have hcap:=grownCap_ge w a.length 0 e
  have hcm:=grownCap_le_maxLen w a.length 0 e hm
  refine ⟨.slice (some ⟨w.heap.size,0,none⟩) a.length (grownCap w a.length 0 e),Lib.bytesWorld w e ⟨a.toArray⟩,by simp [execOp,ho,h1,hrun];exact ⟨rfl,rfl⟩,?_,?_⟩
  ·
   have hbd:Bd M w:=I.bd _ _ hI
   refine ⟨_,grownCap w a.length 0 e,by rw [List.length_map],by rw [List.length_map];exact hcap,hcm,(fun h=>by cases h),fun i row hr=> ?_⟩
   rw [List.getElem?_map] at hr
   cases hc:a[i]? with
   |none=>rw [hc] at hr;cases hr
   |some c=>
    rw [hc] at hr
    simp only [Option.map_some,Option.some.injEq] at hr
    subst hr
    have EO:i<a.length:=by rcases Nat.lt_or_ge i a.length with h|h;exact h;rw [List.getElem?_eq_none h] at hc;cases hc
    refine ⟨rfl,_,rfl,fun j p hp=> ?_⟩
    have hj:j=0:=by
     rcases Nat.eq_zero_or_pos j with h|h
     · exact h
     · rw [List.getElem?_eq_none (by simp;omega)] at hp;cases hp
    subst hj
    simp only [List.getElem?_cons_zero,Option.some.injEq] at hp
    subst hp
    refine ⟨.int .u8 c.toNat,?_,fun bG=> ?_,rfl,rfl⟩
    ·
     rw [show Addr.add ⟨w.heap.size,0,none⟩ (i*1+0)=⟨w.heap.size,i,none⟩ by unfold Addr.add;split<;>simp_all]
     rw [Lib.bytesWorld_cell w e ⟨a.toArray⟩ i (by rw [IU];exact EO)]
     have:([]++a).getD i 0=c:=by simp [hc]
     simp [hc]
    · have:=hbd _ _ bG;simp at this
  · exact Lib.bytesWorld_below w e ⟨a.toArray⟩
theorem PO {a:List UInt8} {k:Nat} {c:UInt8} (h:a[k]? =some c):a[((k:Nat):Int).toNat]? =some c:=h
theorem Qj {t e:TypeId} {x y:Operand} {k:IntKind} {i:Int} {len sz:Nat} {ps qs:List Pr} (ho:o.op= .index t x y) (ht:P.underlying t=some (.array len e)) (he:FJ P e=true) (hz:Ap P e=some sz) (hx:VL E x (agg ps)) (hy:VL E y (is (.int k i))) (h0:0≤i) (hl:i<len)
  (hq:(ps.drop (i.toNat*sz)).take sz=qs):Ad P I o E (agg qs):=
 Ad.same fun M w ac dX _=>by
  obtain ⟨cs,h1,mY,h2⟩:=hx.ev dX (by simp [ho,Op.operands])
  have h3:ac.eval y=_:=hy.ev dX (by simp [ho,Op.operands])
  refine ⟨.agg (cs.toArray.extract (i.toNat*sz) (i.toNat*sz+sz)),?_,(cs.drop (i.toNat*sz)).take sz,?_,fun c hc=>mY c (List.mem_of_mem_drop (List.mem_of_mem_take hc)),by rw [←hq];exact (h2.drop _).take _⟩
  · simp [execOp,ho,h1,h3,Instr.index,asIntOf,run_underlying ht,h0,hl,Bb hz,part,DM he]
  ·
   congr 1
   apply Array.toList_inj.1
   simp [List.extract,Nat.add_sub_cancel_left]
theorem PR {M:Av} {w:World} {v:Value} {xs:List Value} (h:(agg (xs.map is)).h M w v):v= .agg xs.toArray:=by
 obtain ⟨cs,rfl,ho,h2⟩:=h
 congr 1
 have:cs=xs:=by
  clear ho
  induction xs generalizing cs with
  |nil=>cases cs with
   |nil=>rfl
   |cons c cs=>exact h2.elim
  |cons x xs ih=>cases cs with
   |nil=>exact h2.elim
   |cons c cs=>rw [ih cs h2.2,show c=x from h2.1]
 rw [this]
theorem Qk {t u:TypeId} {x y:Operand} {r:Bool} (xs ys:List Value) (ho:o.op= .binOp .eql t x y u) (hx:VL E x (agg (xs.map is))) (hy:VL E y (agg (ys.map is))) (hg:P.eqGuardType P.depth t=false) (hr:∀w,(Op.equal t (.agg xs.toArray) (.agg ys.toArray)).run P w= .ok r w):Ad P I o E (bool r):=
 Ad.same fun M w ac he _=>by
  have h1:=PR (hx.ev he (by simp [ho,Op.operands]))
  have h2:=PR (hy.ev he (by simp [ho,Op.operands]))
  exact ⟨_,by simp [execOp,ho,h1,h2,eqGuard,hg,binOp,hr w],rfl⟩
theorem J_ {t u:TypeId} {x y:Operand} {r:Bool} (xs ys:List Value) (ho:o.op= .binOp .neq t x y u) (hx:VL E x (agg (xs.map is))) (hy:VL E y (agg (ys.map is))) (hg:P.eqGuardType P.depth t=false) (hr:∀w,(Op.equal t (.agg xs.toArray) (.agg ys.toArray)).run P w= .ok r w):Ad P I o E (bool (!r)):=
 Ad.same fun M w ac he _=>by
  have h1:=PR (hx.ev he (by simp [ho,Op.operands]))
  have h2:=PR (hy.ev he (by simp [ho,Op.operands]))
  exact ⟨_,by simp [execOp,ho,h1,h2,eqGuard,hg,binOp,hr w],rfl⟩
theorem mZ {P:Program} {w:World} {d:Nat} {t:TypeId} {fs:Array Field} {xs ys:Array Value} {r:Bool} (ht:P.underlying t=some (.struct fs)) (hp:P.stoodInHeld t=false) (h:(Op.eqFields d xs ys fs.toList).run P w= .ok r w):(Op.equalIn (d+1) t (.agg xs) (.agg ys)).run P w= .ok r w:=by
 have hf:P.fieldsOf t=fs:=by unfold Program.fieldsOf;rw [ht]
 rw [run_equalIn_struct w d t xs ys (by rw [hf];exact ht) hp,hf];exact h
theorem L2 {P:Program} {w:World} {d:Nat} {xs ys:Array Value}:(Op.eqFields d xs ys []).run P w= .ok true w:=by simp [Op.eqFields]
theorem Ff {P : Program} {w : World} {d : Nat} {xs ys : Array Value} {f : Field} {fs : List Field} {vx vy : Value} {r q : Bool} (hn : f.name ≠ "_") (ha : (part f.type xs f.offset).run P w = .ok vx w) (hb : (part f.type ys f.offset).run P w = .ok vy w)
  (he:(Op.equalIn d f.type vx vy).run P w= .ok r w) (hr:(Op.eqFields d xs ys fs).run P w= .ok q w):(Op.eqFields d xs ys (f::fs)).run P w= .ok (r&&q) w:=by
 simp only [Op.eqFields,hn,ne_eq,not_false_eq_true,if_true,Sem.run_bind,ha,hb,he,Result.andThen_ok]
 cases r
 · simp
 · simpa using hr
theorem Ct {P:Program} {w:World} {t:TypeId} {cs:Array Value} {off:Nat} {v:Value} (h1:FA P t=true) (hv:cs[off]? =some v):(part t cs off).run P w= .ok v w:=by
 simp [part,FW h1,hv]
theorem Ql {P:Program} {w:World} {t:TypeId} {cs:Array Value} {off m:Nat} {vs:Array Value} (h1:FJ P t=true) (hz:Ap P t=some m) (hv:cs.extract off (off+m)=vs):(part t cs off).run P w= .ok (.agg vs) w:=by
 simp [part,DM h1,Bb hz,hv]
theorem HU {P:Program} {w:World} {d:Nat} {t:TypeId} {k:IntKind} {a b:Int} (h:P.underlying t=some (.int k)):(Op.equalIn (d+1) t (.int k a) (.int k b)).run P w= .ok (decide (a=b)) w:=by
 rw [run_equalIn_int w d t k k a b h];rfl
end
section
variable {P:Program} {L:Lg P} {E:Env} {I:Ca} {o:Oper}
theorem M_ {M:Av} {w:World} {sz:Nat} {rows:List (List Pr)} {A:Option Addr} {cap lo hi:Nat} (h:(slice sz rows).h M w (.slice A rows.length cap)) (h1:lo≤hi) (h2:hi≤rows.length):
  (slice sz ((rows.take hi).drop lo)).h M w (.slice (if cap=lo then A else A.map (·.add (lo*sz))) (hi-lo) (cap-lo)):=by
 obtain ⟨A',cap',hv,hc,hm,hA,hr⟩:=h
 injection hv with e1 _ e3
 subst e1;subst e3
 have hlen:((rows.take hi).drop lo).length=hi-lo:=by rw [List.length_drop,List.length_take];omega
 refine ⟨_,cap-lo,by rw [hlen],by rw [hlen];omega,by omega,fun h=> ?_,fun i row hi'=> ?_⟩
 ·
  split at h
  · have:=hA h;omega
  ·
   cases hA2:A with
   |none=>have:=hA hA2;omega
   |some a=>rw [hA2] at h;cases h
 ·
  rw [List.getElem?_drop,List.getElem?_take] at hi'
  split at hi'
  ·
   rename_i hlt
   obtain ⟨h3,ad,h4,h5⟩:=hr _ row hi'
   subst h4
   rw [if_neg (by omega)]
   refine ⟨h3,_,rfl,fun j p hp=> ?_⟩
   obtain ⟨u,h6,h7,h8,h9⟩:=h5 j p hp
   refine ⟨u,?_,?_,h8,h9⟩
   · rw [add_add,show lo*sz+(i*sz+j)=(lo+i)*sz+j by rw [Nat.add_mul];omega];exact h6
   · rw [Da,Fy,show ad.off+lo*sz+(i*sz+j)=ad.off+((lo+i)*sz+j) by rw [Nat.add_mul];omega];exact h7
  · cases hi'
theorem El {t e:TypeId} {x y:Operand} {k:IntKind} {h:Int} {sz:Nat} {rows:List (List Pr)} (ho:o.op= .slice t x none (some y) none) (ht:P.underlying t=some (.slice e)) (hz:Ap P e=some sz) (hx:VL E x (slice sz rows)) (hy:VL E y (is (.int k h))) (h0:0≤h) (hl:h≤rows.length):
  Ad P I o E (slice sz (rows.take h.toNat)):=
 Ad.same fun M w a he _=>by
  have h1:=hx.ev he (by simp [ho,Op.operands])
  have h3:a.eval y=_:=hy.ev he (by simp [ho,Op.operands])
  obtain ⟨A,cap,hv,hc,hm,hA,hr⟩:=h1
  have h2:=M_ (lo:=0) (hi:=h.toNat) (show (slice sz rows).h M w (.slice A rows.length cap) from ⟨A,cap,rfl,hc,hm,hA,hr⟩) (by omega) (by omega)
  refine ⟨_,?_,by simpa using h2⟩
  have hb:h≤(cap:Int):=by omega
  simp [execOp,ho,hv,h3,Instr.sliceAt,Instr.slice,run_underlying ht,Instr.sliceBounds,Instr.sliceBound,asIntOf,h0,hb,Bb hz]
theorem DI {t e:TypeId} {x y:Operand} {k:IntKind} {l:Int} {sz:Nat} {rows:List (List Pr)} (ho:o.op= .slice t x (some y) none none) (ht:P.underlying t=some (.slice e)) (hz:Ap P e=some sz) (hx:VL E x (slice sz rows)) (hy:VL E y (is (.int k l))) (h0:0≤l) (hl:l≤rows.length):
  Ad P I o E (slice sz (rows.drop l.toNat)):=
 Ad.same fun M w a he _=>by
  have h1:=hx.ev he (by simp [ho,Op.operands])
  have h3:a.eval y=_:=hy.ev he (by simp [ho,Op.operands])
  obtain ⟨A,cap,hv,hc,hm,hA,hr⟩:=h1
  have h2:=M_ (lo:=l.toNat) (hi:=rows.length) (show (slice sz rows).h M w (.slice A rows.length cap) from ⟨A,cap,rfl,hc,hm,hA,hr⟩) (by omega) (Nat.le_refl _)
  rw [List.take_length] at h2
  refine ⟨_,?_,h2⟩
  simp [execOp,ho,hv,h3,Instr.sliceAt,Instr.slice,run_underlying ht,Instr.sliceBounds,Instr.sliceBound,asIntOf,h0,hl,Bb hz]
end
section
variable {P:Program} {L:Lg P} {n:Fm} {fz:Nat} {E:Env} {M0:Av} {w0:World} {S:Nat→Prop} {rs:List BO} {o:Oper} {g:Func} {M1:Av} {w1:World}
def Tg (E:Env) (v0:Value) (q0:Pr):List Operand→List Pr→Prop
 |[],[]=>True
 |x::xs,p::ps=>(VL E x p∨(VL E x (is v0)∧Pr.le (As v0 q0) p))∧Tg E v0 q0 xs ps
 |_,_=>False
theorem Tg.ev {M M':Av} {w:World} {a:Act} {v0:Value} {q0:Pr} (he:Ci M w E o a) (hx:Ext M w M' w) (h0:q0.h M' w v0):∀{xs:List Operand} {ps:List Pr},(∀x∈xs,x∈o.op.operands.toList)→Tg E v0 q0 xs ps→HL M' w ps (xs.map a.eval)
 |[],[],_,_=>trivial
 |[],_::_,_,h=>h.elim
 |_::_,[],_,h=>h.elim
 |x::xs,p::ps,hm,h=>by
  refine ⟨?_,Tg.ev he hx h0 (fun y hy=>hm y (List.mem_cons_of_mem _ hy)) h.2⟩
  rcases h.1 with h1|⟨h1,h2⟩
  · exact p.st _ _ _ _ _ hx (h1.ev he (hm x (by simp)))
  ·
   have h3:a.eval x=v0:=h1.ev he (hm x (by simp))
   exact h2 _ _ _ ⟨h3,by rw [h3];exact h0⟩
class Ku (p:Pr):Prop where
 free:∀M M' w v,p.h M w v→p.h M' w v
instance me (u:Value):Ku (is u):=⟨fun _ _ _ _ h=>h⟩
instance gI (m:Nat):Ku (lens m):=⟨fun _ _ _ _ h=>h⟩
end
def Rn (es:List (Value×Value)):Array MapEntry:=(es.zipIdx.map fun p=>({ key:=p.1.1,val:=p.1.2,born:=p.2 }:MapEntry)).toArray
theorem NA (es:List (Value×Value)) (i:Nat):(Rn es)[i]? =(es[i]?).map fun p=>{ key:=p.1,val:=p.2,born:=i }:=by
 simp [Rn,List.getElem?_zipIdx]
 cases es[i]? <;>simp
structure oz (P:Program) (T kt et:TypeId) {κ:Type} [DecidableEq κ] (enc:κ→Value):Prop where
 und:P.underlying T=some (.map kt et)
 zero:∀w,(zeroValue et).run P w= .ok (.int .i64 0) w
 eq:∀a b w,(Op.equal kt (enc a) (enc b)).run P w= .ok (decide (a=b)) w
 chk:∀e a w,(Instr.checkKey e 10000 kt (enc a)).run P w= .ok () w
 sD:∃d,P.underlying kt=some d∧((∀a b,Instr.sameNow d (enc a) (enc b)=none)∨∀a b,Instr.sameNow d (enc a) (enc b)=some (decide (a=b)))
 bits:∀a,Instr.sameBits 10000 (enc a) (enc a)=true
section
variable {P:Program} {L:Lg P} {n:Fm} {fz:Nat} {E:Env} {M0:Av} {w0:World} {S:Nat→Prop} {rs:List BO} {o:Oper} {κ:Type} [DecidableEq κ] {enc:κ→Value}
abbrev NB (enc:κ→Value) (es:List (κ×Int)):List (Value×Value):=es.map fun p=>(enc p.1,.int .i64 p.2)
def dY (enc:κ→Value) (b:Nat) (es:List (κ×Int)):BO where
 IB:=some b
 new:=true
 h M w:=(∀o,M b o)∧w.heap[b]? =some (.map (Rn (NB enc es)) es.length)
 st M w M' w' he hk h:=by
  obtain ⟨h1,h2⟩:=hk b rfl
  exact ⟨fun o=>h2 o (h.1 o),h1.trans h.2⟩
def look (es:List (κ×Int)) (k:κ):Option Int:=(es.find? fun p=>decide (k=p.1)).map (·.2)
theorem BU.o9 {M:Av} {w:World} {obj:Obj} {r:BO} (h:BU M0 w0 S rs M w) (hb:r.IB=some w.heap.size) (hn:r.new=true) (hr:r.h (fun b o=>M b o∨b=w.heap.size) (w.alloc obj)):
  BU M0 w0 S (r::rs) (fun b o=>M b o∨b=w.heap.size) (w.alloc obj)∧Ext M w (fun b o=>M b o∨b=w.heap.size) (w.alloc obj):=by
 have jg:Below w.heap.size w (w.alloc obj):=(Below.refl _ _).alloc (Nat.le_refl _) _
 have hsz:(w.alloc obj).heap.size=w.heap.size+1:=by simp
 have he:Ext M w (fun b o=>M b o∨b=w.heap.size) (w.alloc obj):=by
  have h2:=Ext.below (M:=M) jg
  refine ⟨h2.size,fun a v hc hm=>⟨fun hx=> ?_,(h2.keep a v hc hm).2⟩,fun b o ho hp hm=>⟨fun hx=> ?_,(h2.obj b o ho hp hm).2⟩⟩
  ·
   rcases hx with hx|hx
   · exact hm hx
   · have:=D3 hc;omega
  ·
   rcases hx with hx|hx
   · exact hm hx
   · subst hx;simp at ho
 have hI:=(Hp M0 w0 S rs).st _ _ _ jg h
 refine ⟨⟨hI.m0,fun b o hm=> .inl (hI.m b o hm),hI.os,hI.tape,hI.output,hI.size,hI.block,fun b o hm=> ?_,fun r' hr'=> ?_,?_⟩,he⟩
 ·
  rcases hm with hm|hm
  · exact hI.bd b o hm
  · omega
 ·
  rcases List.mem_cons.1 hr' with rfl|hr'
  ·
   refine ⟨hr,fun b hbk=> ?_⟩
   rw [hb] at hbk
   injection hbk with hbk
   subst hbk
   exact ⟨by omega,by rw [hn];simpa using h.size⟩
  ·
   obtain ⟨h3,h4⟩:=h.hold r' hr'
   exact ⟨r'.st _ _ _ _ he (fun b hbk=>⟨jg.block b (h4 b hbk).1,fun _ x=> .inl x⟩) h3,fun b hbk=>⟨by have:=(h4 b hbk).1;omega,(h4 b hbk).2⟩⟩
 ·
  refine List.Pairwise.cons (fun r' hr' b hbk EX=> ?_) h.nd
  rw [hb] at hbk
  injection hbk with hbk
  have:=((h.hold r' hr').2 b EX).1
  omega
def Eg (w:World) (b:Nat) (o:Obj):World:={ w with heap:=w.heap.setIfInBounds b o }
theorem ZC {w:World} {b:Nat} {o:Obj} (h:b<w.heap.size):(Eg w b o).heap[b]? =some o:=by
 show (w.heap.setIfInBounds b o)[b]? =_
 rw [Array.getElem?_setIfInBounds];simp [h]
theorem JY {w:World} {b k:Nat} {o:Obj} (h:k≠b):(Eg w b o).heap[k]? =w.heap[k]? :=by
 show (w.heap.setIfInBounds b o)[k]? =_
 rw [Array.getElem?_setIfInBounds,if_neg (fun e=>h e.symm)]
theorem BU.o_ {M:Av} {w:World} {obj:Obj} {r r':BO} {j b:Nat} (h:BU M0 w0 S rs M w) (hj:rs[j]? =some r) (hb:r.IB=some b) (hb':r'.IB=some b) (hn:r.new=true) (hn':r'.new=true) (hM:∀o,M b o) (hr:r'.h M (Eg w b obj)):
  BU M0 w0 S (rs.set j r') M (Eg w b obj)∧Ext M w M (Eg w b obj):=by
 have hlt:=((h.hold r (List.mem_of_getElem? hj)).2 b hb).1
 have hsz:(Eg w b obj).heap.size=w.heap.size:=by simp [Eg]
 have he:Ext M w M (Eg w b obj):=by
  refine ⟨by omega,fun a v hc hm=>⟨hm,?_⟩,fun k o ho hp hm=>⟨hm,?_⟩⟩
  · rw [World.cell?_of_block (w:=w) (JY (fun e=>hm (by rw [e];exact hM _)))];exact hc
  · rw [JY (fun e=>hm (by rw [e];exact hM _))];exact ho
 refine ⟨h.replace hj he rfl rfl rfl (fun k _ hk=>JY (fun e=>hk (by rw [hb,e]))) hn (fun _ _ hm _=>hm) (fun k o hm=>by rw [hsz];exact h.bd k o hm) hr hn' (fun k hk=> ?_),he⟩
 rw [hb'] at hk
 injection hk with hk
 subst hk
 exact ⟨by omega,.inl hb⟩
variable {Q:Exit→Act→World→Prop} {ops:Array Oper} {r:List Oper}
def OO (it b m:Nat) (seen:List Nat):BO where
 IB:=some it
 new:=true
 h M w:=(∀o,M it o)∧w.heap[it]? =some (.mapIter (some b) m seen.toArray m)
 st M w M' w' he hk h:=by
  obtain ⟨h1,h2⟩:=hk it rfl
  exact ⟨fun o=>h2 o (h.1 o),h1.trans h.2⟩
theorem TO.range {d j b:Nat} {T kt et:TypeId} {x:Operand} {es:List (κ×Int)} (hT:oz P T kt et enc) (hg:o.guard=none) (hd:o.dst=some d) (hn:d<n) (ho:o.op= .range T x) (hx:VL E x (is (.map (some b)))) (hj:rs[j]? =some (dY enc b es))
  (k:∀it,TO P n ops r ((d,ptr it 0)::E) (Hp M0 w0 S (OO it b es.length []::rs)) Q):TO P n ops (o::r) E (Hp M0 w0 S rs) Q:=
 TO.VV hg fun K M w a hsz hdf he hI hK=>by
  have h1:a.eval x=_:=hx.ev (o:=o) (Cj he) (by simp [ho,Op.operands])
  obtain ⟨_,hh⟩:=(BU.hold hI _ (List.mem_of_getElem? hj)).1
  refine TO.val (v:= .pointer (some ⟨w.heap.size,0,none⟩)) (w':=w.alloc (.mapIter (some b) es.length #[] es.length)) ?_ ?_
  · simp [execOp,ho,h1,run_range_map w T kt et b _ _ hT.und hh]
  ·
   obtain ⟨h2,h3⟩:=BU.o9 (obj:= .mapIter (some b) es.length #[] es.length) (r:=OO w.heap.size b es.length []) hI rfl rfl ⟨fun _=> .inr rfl,by rw [heap_alloc_new]⟩
   refine hK _ _ _ _ (k w.heap.size) ⟨_,by rw [CL];exact hsz,by rw [put_defers];exact hdf,?_,h2⟩
   intro s p hp
   simp only [List.lookup] at hp
   by_cases hs:s=d
   · subst hs;simp at hp;subst hp;rw [hd,B2 (by rw [hsz];exact hn)];rfl
   ·
    rw [show (s==d)=false by simpa using hs] at hp
    rw [hd,CK hs]
    exact p.st _ _ _ _ _ h3 (he s p hp)
theorem mem_left {es:List (Value×Value)} {seen:List Nat} {e:MapEntry}:e∈(leftOf (Rn es) seen.toArray).toList↔∃q p,es[q]? =some p∧q∉seen∧e={ key:=p.1,val:=p.2,born:=q }:=by
 unfold leftOf
 rw [Array.toList_filter,List.mem_filter]
 constructor
 ·
  rintro ⟨h1,h2⟩
  obtain ⟨q,hq⟩:=List.mem_iff_getElem?.1 h1
  rw [Array.getElem?_toList,NA] at hq
  cases hp:es[q]? with
  |none=>rw [hp] at hq;cases hq
  |some p=>
   rw [hp] at hq
   simp only [Option.map_some,Option.some.injEq] at hq
   subst hq
   exact ⟨q,p,hp,by simpa using h2,rfl⟩
 ·
  rintro ⟨q,p,hp,hq,rfl⟩
  exact ⟨List.mem_iff_getElem?.2 ⟨q,by rw [Array.getElem?_toList,NA,hp];rfl⟩,by simpa using hq⟩
theorem PT {w:World} (ty:TypeId) {it b m:Nat} {seen:List Nat} {es:List (Value×Value)} (hm:es.length=m) (hit:w.heap[it]? =some (.mapIter (some b) m seen.toArray m)) (hb:w.heap[b]? =some (.map (Rn es) m)):
  ((∀q,q<m→q∈seen)∧(Instr.next (.pointer (some ⟨it,0,none⟩)) false ty).run P w= .ok (.tuple #[.bool false]) w)∨
  ∃q p,es[q]? =some p∧q∉seen∧∃w1,(w1=w∨w1=w.drew)∧(Instr.next (.pointer (some ⟨it,0,none⟩)) false ty).run P w= .ok (.tuple #[.bool true,p.1,p.2]) (Eg w1 it (.mapIter (some b) m (seen++[q]).toArray m)):=by
 have hold:∀x∈(Rn es).toList,x.born<m:=by
  intro x hx
  obtain ⟨q,hq⟩:=List.mem_iff_getElem?.1 hx
  rw [Array.getElem?_toList,NA] at hq
  cases hp:es[q]? with
  |none=>rw [hp] at hq;cases hq
  |some p=>
   rw [hp] at hq
   simp only [Option.map_some,Option.some.injEq] at hq
   subst hq
   show q<m
   rcases Nat.lt_or_ge q es.length with h|h
   · omega
   · rw [List.getElem?_eq_none h] at hp;cases hp
 simp only [Instr.next,getObj,Sem.run_bind,Sem.run,hit,hb,Result.andThen,next_test_false seen.toArray (Rn es) m m hold (Nat.le_refl _),Bool.false_eq_true,if_false]
 have hleft:(Rn es).filter (fun e=> !seen.toArray.contains e.born)=leftOf (Rn es) seen.toArray:=rfl
 rw [hleft]
 have hmem:∀x∈(leftOf (Rn es) seen.toArray).toList,x.born<m:=fun x hx=>by
  obtain ⟨q,p,h1,_,rfl⟩:=mem_left.1 hx
  rcases Nat.lt_or_ge q es.length with h|h
  · show q<m;omega
  · rw [List.getElem?_eq_none h] at h1;cases h1
 have hml:∀e,e∈(leftOf (Rn es) seen.toArray).toList↔∃q p,es[q]? =some p∧q∉seen∧e={ key:=p.1,val:=p.2,born:=q }:=fun e=>mem_left
 generalize leftOf (Rn es) seen.toArray=L at hmem hml ⊢
 have e1:L.filter (fun x=>decide (x.born<m))=L:=Array.filter_eq_self.2 (fun x hx=>by simpa using hmem x (by simpa using hx))
 have e2:L.filter (fun x=>decide (x.born≥m))= #[]:=by
  rw [Array.filter_eq_empty_iff]
  intro x hx
  have:=hmem x (by simpa using hx)
  simp
  omega
 simp only [e1,e2,Array.append_empty]
 by_cases h0:L.size=0
 ·
  left
  have hL:L= #[]:=Array.eq_empty_of_size_eq_zero h0
  refine ⟨fun q hq=> ?_,?_⟩
  ·
   rcases Classical.em (q∈seen) with h|h
   · exact h
   ·
    have:=(hml { key:=(es[q]'(by omega)).1,val:=(es[q]'(by omega)).2,born:=q }).2 ⟨q,es[q]'(by omega),List.getElem?_eq_getElem (by omega),h,rfl⟩
    rw [hL] at this;simp at this
  ·
   subst hL
   simp [choose,Sem.run,Question.forced]
 ·
  right
  have hne:L.isEmpty=false:=by simp [Array.isEmpty,h0]
  simp only [hne,Bool.false_eq_true,if_false,Array.empty_append,Array.size_map]
  have hch:∃(j:Nat) (w1:World),j<L.size∧(w1=w∨w1=w.drew)∧(choose (Question.mapNext L.size)).run P w= .ok j w1:=by
   by_cases hf:L.size≤1
   · exact ⟨0,w,by omega,.inl rfl,by simp [choose,Sem.run,Question.forced,hf]⟩
   ·
    exact ⟨_, w.drew, Nat.mod_lt _ (by omega), .inr rfl, by
     simp only [choose,Sem.run,Question.forced,decide_eq_true_eq,hf,if_false,Question.cut]
     rfl⟩
  obtain ⟨j,w1,hj,hal,hrun⟩:=hch
  obtain ⟨q,p,hq1,QS,ZD⟩:=(hml L[j]).1 (by simp)
  refine ⟨q,p,hq1,QS,w1,hal,?_⟩
  have hw1:w1.heap=w.heap:=by rcases hal with rfl|rfl<;>rfl
  have Gl:∀(o':Obj),(setObj it o').run P w1= .ok () (Eg w1 it o'):=fun o'=>by
   have pE:w1.heap[it]? =some (.mapIter (some b) m seen.toArray m):=by rw [hw1];exact hit
   simp only [setObj,Sem.run,pE]
   rfl
  simp only [hrun,Array.getElem?_map,Array.getElem?_eq_getElem hj,Option.map_some,Sem.run_bind,Gl,Result.andThen]
  rw [ZD]
  simp
omit [DecidableEq κ] in
theorem TO.next {d i j it b:Nat} {x:Operand} {es:List (κ×Int)} {seen:List Nat} (hg:o.guard=none) (hd:o.dst=some d) (hn:d<n) (ho:o.op= .next x false) (hx:VL E x (ptr it 0)) (hi:rs[i]? =some (OO it b es.length seen)) (hj:rs[j]? =some (dY enc b es))
  (k1:(∀q,q<es.length→q∈seen)→TO P n ops r ((d,Fa [bool false])::E) (Hp M0 w0 S rs) Q)
  (k2:∀q p,es[q]? =some p→q∉seen→TO P n ops r ((d,Fa [bool true,is (enc p.1),int p.2])::E) (Hp M0 w0 S (rs.set i (OO it b es.length (seen++[q])))) Q):TO P n ops (o::r) E (Hp M0 w0 S rs) Q:=
 TO.VV hg fun K M w a hsz hdf he hI hK=>by
  have h1:a.eval x= .pointer (some ⟨it,0,none⟩):=hx.ev (o:=o) (Cj he) (by simp [ho,Op.operands])
  obtain ⟨⟨hMi,hit⟩,ZE⟩:=BU.hold hI _ (List.mem_of_getElem? hi)
  obtain ⟨_,hh⟩:=(BU.hold hI _ (List.mem_of_getElem? hj)).1
  have hlt:=(ZE it rfl).1
  rcases PT (P:=P) o.type (es:=NB enc es) (by simp [NB]) hit hh with ⟨h2,h3⟩|⟨q,p,h2,h3,w1,h4,h5⟩
  ·
   refine TO.val (v:= .tuple #[.bool false]) (w':=w) ?_ ?_
   · simp [execOp,ho,h1,h3]
   ·
    refine hK _ _ _ _ (k1 h2) ⟨M,by rw [CL];exact hsz,by rw [put_defers];exact hdf,?_,hI⟩
    intro s p hp
    simp only [List.lookup] at hp
    by_cases hs:s=d
    · subst hs;simp at hp;subst hp;rw [hd,B2 (by rw [hsz];exact hn)];exact ⟨_,rfl,rfl,trivial⟩
    ·
     rw [show (s==d)=false by simpa using hs] at hp
     rw [hd,CK hs];exact he s p hp
  ·
   have hes:∃p',es[q]? =some p'∧p=(enc p'.1,.int .i64 p'.2):=by
    simp only [NB,List.getElem?_map] at h2
    cases h:es[q]? with
    |none=>rw [h] at h2;cases h2
    |some p'=>rw [h] at h2;simp at h2;exact ⟨p',rfl,h2.symm⟩
   obtain ⟨p',Ns,rfl⟩:=hes
   refine TO.val (v:= .tuple #[.bool true,enc p'.1,.int .i64 p'.2]) (w':=Eg w1 it (.mapIter (some b) es.length (seen++[q]).toArray es.length)) ?_ ?_
   · simp [execOp,ho,h1,h5]
   ·
    have dZ:Below w.heap.size w w1:=by
     rcases h4 with rfl|rfl
     · exact Below.refl _ _
     · exact (Below.refl _ _).drew
    have hI1:=(Hp M0 w0 S rs).st _ _ _ dZ hI
    obtain ⟨h6,h7⟩:=BU.o_ (obj:= .mapIter (some b) es.length (seen++[q]).toArray es.length) (r':=OO it b es.length (seen++[q])) hI1 hi rfl rfl rfl rfl hMi ⟨hMi,ZC (Nat.lt_of_lt_of_le hlt dZ.size)⟩
    refine hK _ _ _ _ (k2 q p' Ns h3) ⟨M,by rw [CL];exact hsz,by rw [put_defers];exact hdf,?_,h6⟩
    intro s p hp
    simp only [List.lookup] at hp
    by_cases hs:s=d
    · subst hs;simp at hp;subst hp;rw [hd,B2 (by rw [hsz];exact hn)];exact ⟨_,rfl,rfl,rfl,rfl,trivial⟩
    ·
     rw [show (s==d)=false by simpa using hs] at hp
     rw [hd,CK hs]
     exact p.st _ _ _ _ _ ((Ext.below dZ).trans h7) (he s p hp)
omit [DecidableEq κ] in
theorem TO.entry {d i j it b q:Nat} {x:Operand} {es:List (κ×Int)} {seen:List Nat} {p:κ×Int} (hg:o.guard=none) (hd:o.dst=some d) (hn:d<n) (ho:o.op= .entry x) (hx:VL E x (ptr it 0)) (hi:rs[i]? =some (OO it b es.length (seen++[q]))) (hj:rs[j]? =some (dY enc b es)) (hq:es[q]? =some p)
  (k:TO P n ops r ((d,Fa [is (enc p.1),int p.2])::E) (Hp M0 w0 S rs) Q):TO P n ops (o::r) E (Hp M0 w0 S rs) Q:=
 TO.VV hg fun K M w a hsz hdf he hI hK=>by
  have h1:a.eval x= .pointer (some ⟨it,0,none⟩):=hx.ev (o:=o) (Cj he) (by simp [ho,Op.operands])
  obtain ⟨⟨_,hit⟩,_⟩:=BU.hold hI _ (List.mem_of_getElem? hi)
  obtain ⟨_,hh⟩:=(BU.hold hI _ (List.mem_of_getElem? hj)).1
  have Mz:(Rn (NB enc es))[q]? =some { key:=enc p.1,val:= .int .i64 p.2,born:=q }:=by rw [NA];simp [NB,hq]
  have hnd:((Rn (NB enc es)).toList.map (·.born)).Nodup:=by
   have:(Rn (NB enc es)).toList.map (·.born)=List.range (NB enc es).length:=by
    apply List.ext_getElem?
    intro k
    rw [List.getElem?_map,Array.getElem?_toList,NA]
    by_cases hk:k<(NB enc es).length
    · rw [List.getElem?_range hk,List.getElem?_eq_getElem hk];rfl
    · rw [List.getElem?_eq_none (Nat.le_of_not_lt hk),List.getElem?_eq_none (by simp at hk ⊢;omega)];rfl
   rw [this];exact List.nodup_range
  have hfind:(Rn (NB enc es)).find? (fun e=>e.born==q)=some { key:=enc p.1,val:= .int .i64 p.2,born:=q }:=by
   rw [←Array.find?_toList]
   exact find_born { key:=enc p.1,val:= .int .i64 p.2,born:=q } _ hnd (List.mem_iff_getElem?.2 ⟨q,by rw [Array.getElem?_toList];exact Mz⟩)
  refine TO.val (v:= .tuple #[enc p.1,.int .i64 p.2]) (w':=w) ?_ ?_
  ·
   have:(Instr.entry (.pointer (some ⟨it,0,none⟩))).run P w= .ok (.tuple #[enc p.1,.int .i64 p.2]) w:=by
    have hb:(seen++[q]).toArray.back? =some q:=by simp
    simp only [Instr.entry,getObj,Sem.run_bind,Sem.run,hit,hh,Result.andThen,hb,bne_self_eq_false,Bool.false_eq_true,if_false,hfind]
    rfl
   simp [execOp,ho,h1,this]
  ·
   refine hK _ _ _ _ k ⟨M,by rw [CL];exact hsz,by rw [put_defers];exact hdf,?_,hI⟩
   intro s p hp
   simp only [List.lookup] at hp
   by_cases hs:s=d
   · subst hs;simp at hp;subst hp;rw [hd,B2 (by rw [hsz];exact hn)];exact ⟨_,rfl,rfl,rfl,trivial⟩
   ·
    rw [show (s==d)=false by simpa using hs] at hp
    rw [hd,CK hs];exact he s p hp
end
section
variable {P:Program} {L:Lg P}
end
section
variable {P:Program} {L:Lg P} {n:Fm} {fz:Nat} {E:Env} {M0:Av} {w0:World} {S:Nat→Prop} {rs:List BO} {o:Oper}
theorem Lj (w:World) (A:Option Addr) (t ty e:TypeId) (i:TypeInfo) (z:Value) (ht:P.underlying t=some (.slice e)) (hi:P.info? e=some i) (hz:i.zero=some z)
  (a:Addr) (n c:Nat) (news:List Value) (hl:news.length=n*i.size) (hnews:∀j v,news[j]? =some v→w.cell? (a.add j)=some v)
  (h0:0<n) (h63:(n:Int)≤9223372036854775807) (h48:n*i.bytes≤281474976710656):
  (Builtin.append_ #[t, t] ty #[.slice A 0 0, .slice (some a) n c]).run P w =
   .ok (.slice (some ⟨w.heap.size,0,none⟩) n (grownCap w n 0 e)) (w.drew.alloc (.cells (news.toArray++Builtin.zeroCells z.cells (grownCap w n 0 e-n)) e)):=by
 cases A with
 |none=>exact run_append_nil (w:=w) t ty e i z ht hi hz a n c news hl hnews h0 h63 h48
 |some b=>
  have:=run_append_grow (w:=w) t ty e i z ht hi hz b 0 0 [] (by simp) (by simp) a n c news hl hnews (by omega) (by simpa using h63) (by rw [Nat.zero_add,nextslicecap_zero h0];exact h48)
  simpa using this
theorem V9 {M:Av} {w:World} {t ty e:TypeId} {sz bytes:Nat} {zs:List Value} {rows:List (List Pr)} {u:Value} {j:Nat} (A:Option Addr) (ht:P.underlying t=some (.slice e)) (hz:Ap P e=some sz) (hby:CI P e=some bytes) (C6:Bh P e=some zs) (hzl:zs.length=sz) (hone:zs.all (·.oneCell')=true) (hsz:0<sz)
  (h:BU M0 w0 S rs M w) (hj:rs[j]? =some Bm) (hu:(slice sz rows).h M w u) (hpos:0<rows.length) (EB:rows.length≤maxLen) (hfit:rows.length*bytes≤140737488355328):
  ∃v' w' M',(Builtin.append_ #[t,t] ty #[.slice A 0 0,u]).run P w= .ok v' w'∧(lens rows.length).h M' w' v'∧Ext M w M' w'∧BU M0 w0 S (rs.set j (C_ e sz rows v')) M' w':=by
 unfold Ap at hz
 unfold CI at hby
 unfold Bh at C6
 cases hi:P.info? e with
 |none=>rw [hi] at hz;cases hz
 |some i=>
  rw [hi] at hz hby C6
  simp only [Option.map_some,Option.some.injEq,Option.map_eq_some_iff] at hz hby C6
  obtain ⟨z,OG,C6⟩:=C6
  have Rl:z.cells.size=sz:=by rw [←hzl,←C6];simp
  obtain ⟨A',c',rfl,Vm,Mq,UT,D0⟩:=hu
  have IA:(slice sz rows).h M w (.slice A' rows.length c'):=⟨A',c',rfl,Vm,Mq,UT,D0⟩
  obtain ⟨JA,rfl⟩:∃JA,A'=some JA:=by
   obtain ⟨_,b,hb,_⟩:=D0 0 _ (List.getElem?_eq_getElem hpos)
   exact ⟨b,hb⟩
  obtain ⟨news,hfl,hcell⟩:=Dq hsz IA
  have hrun:=Lj (P:=P) w A t ty e i z ht hi OG JA rows.length c' news (by rw [hz];exact hfl.1) (fun k u hk=>(hcell k u hk).1) hpos (by unfold maxLen at EB;omega) (by rw [hby];omega)
  generalize hcap:grownCap w rows.length 0 e=cap at hrun
  have hge:rows.length≤cap:=by rw [←hcap];exact grownCap_ge _ _ _ _
  have hle:cap≤maxLen:=by rw [←hcap];exact grownCap_le_maxLen _ _ _ _ EB
  generalize Nx:Builtin.zeroCells z.cells (cap-rows.length)=zc at hrun
  have hzs:zc.size=(cap-rows.length)*sz:=by rw [←Nx,size_zeroCells,Rl]
  have jf:∀c∈zc.toList,c.oneCell'=true:=by rw [←Nx];exact Dw C6 hone
  have hb:Below w.heap.size w (w.drew.alloc (.cells (news.toArray++zc) e)):=((Below.refl _ _).drew).alloc (Nat.le_refl _) _
  have h2:=Ext.below (M:=M) hb
  have DV:Ext M w (fun b o=>M b o∨b=w.heap.size) (w.drew.alloc (.cells (news.toArray++zc) e)):=by
   refine ⟨h2.size,fun a v hc hm=>⟨fun hx=> ?_,(h2.keep a v hc hm).2⟩,fun b o ho hp hm=>⟨fun hx=> ?_,(h2.obj b o ho hp hm).2⟩⟩
   ·
    rcases hx with hx|hx
    · exact hm hx
    · have:=D3 hc;omega
   ·
    rcases hx with hx|hx
    · exact hm hx
    · subst hx;simp at ho
  have hs1:(w.drew.alloc (.cells (news.toArray++zc) e)).heap.size=w.heap.size+1:=by simp
  refine ⟨_,_,fun b o=>M b o∨b=w.heap.size,hrun,⟨_,_,rfl⟩,DV,?_⟩
  refine h.replace hj DV hb.os hb.tape hb.output (fun k hk _=>hb.block k hk) rfl (fun b o hm _=> .inl hm) (fun b o hx=> ?_) ?_ rfl (fun b hbk=> ?_)
  ·
   rcases hx with hx|hx
   · have:=h.bd _ _ hx;omega
   · omega
  ·
   refine ⟨w.heap.size,cap,zc.toList,rfl,hge,hle,by simpa using hzs,fun o=> .inr rfl,news++zc.toList,?_,?_,?_⟩
   ·
    have hh:(w.drew.alloc (.cells (news.toArray++zc) e)).heap[w.heap.size]? =some (.cells (news.toArray++zc) e (0,0)):=heap_alloc_new w.drew _
    rw [hh];simp
   · exact ((hfl.st DV).hl hsz).app (LM _ _ _)
   ·
    intro c hc
    rcases List.mem_append.1 hc with hc|hc
    · exact hfl.2.1 c hc
    · exact jf c hc
  ·
   have EX:some w.heap.size=some b:=hbk
   injection EX with e1
   subst e1
   exact ⟨by rw [hs1];omega,.inr (Nat.le_refl _)⟩
theorem FM {t e:TypeId} {x y:Operand} {sz':Nat} {sz bytes d:Nat} {zs:List Value} {rows:List (List Pr)} {j:Nat} (hg:o.guard=none) (hd:o.dst=some d) (hn:d<n) (ho:o.op= .call { callee:= .builtin .append,args:= #[x,y],argTypes:= #[t,t] })
  (ht:P.underlying t=some (.slice e)) (hz:Ap P e=some sz) (hby:CI P e=some bytes) (C6:Bh P e=some zs) (hzl:zs.length=sz) (hone:zs.all (·.oneCell')=true) (hsz:0<sz)
  (hx:VL E x (full sz' [])) (hy:VL E y (slice sz rows)) (hpos:0<rows.length) (EB:rows.length≤maxLen) (hfit:rows.length*bytes≤140737488355328):DU P M0 w0 S n j (SR.c Bm) ⟨d,C_ e sz rows⟩ o E (lens rows.length):=by
 refine ⟨hg,fun M w a rs H7 he hI hj=> ?_⟩
 have h2:=hy.ev he (by simp [ho,Op.operands,Call.operands])
 obtain ⟨_,A,h1⟩:=hx.ev he (by simp [ho,Op.operands,Call.operands])
 simp only [List.length_nil] at h1
 obtain ⟨v',w',M',hrun,h3,h4,h5⟩:=V9 A (ty:=o.type) ht hz hby C6 hzl hone hsz hI hj h2 hpos EB hfit
 have Cz:(execOp a.eval o).run P w= .ok (.value v') w':=by simp [execOp,ho,resolve,invoke,builtin,h1,hrun]
 rw [Cz]
 refine ⟨M',h3,h4,?_⟩
 have:(SR.at_ (a.put o.dst v') ⟨d,C_ e sz rows⟩)=C_ e sz rows v':=by unfold SR.at_ Slot.val;dsimp only;rw [hd,B2 (by rw [H7];exact hn)]
 rw [this];exact h5
theorem EJ {I:Ca} {t e:TypeId} {x:Operand} {A:Option Addr} {m cap:Nat} (ho:o.op= .call { callee:= .builtin .len,args:= #[x],argTypes:= #[t] }) (ht:P.underlying t=some (.slice e)) (hx:VL E x (is (.slice A m cap))):Ad P I o E (int m):=
 Ad.same fun M w a he _=>by
  have h1:a.eval x=_:=hx.ev he (by simp [ho,Op.operands,Call.operands])
  exact ⟨.int .i64 m,by simp [execOp,ho,resolve,invoke,builtin,Builtin.len_,h1,run_underlying ht,goInt],rfl⟩
theorem Fg {I:Ca} {t e:TypeId} {x y:Operand} {k:IntKind} {h:Int} {sz b m cap:Nat} (ho:o.op= .slice t x none (some y) none) (ht:P.underlying t=some (.slice e)) (hz:Ap P e=some sz) (hx:VL E x (is (.slice (some ⟨b,0,none⟩) m cap))) (hy:VL E y (is (.int k h))) (h0:0≤h) (hl:h≤m) (hc:m≤cap) (h1m:0<cap):
  Ad P I o E (is (.slice (some ⟨b,0,none⟩) h.toNat cap)):=
 Ad.same fun M w a he _=>by
  have h1:a.eval x=_:=hx.ev he (by simp [ho,Op.operands])
  have h3:a.eval y=_:=hy.ev he (by simp [ho,Op.operands])
  have hb:h≤(cap:Int):=by omega
  refine ⟨_,?_,rfl⟩
  simp [execOp,ho,h1,h3,Instr.sliceAt,Instr.slice,run_underlying ht,Instr.sliceBounds,Instr.sliceBound,asIntOf,h0,hb,Bb hz]
  intro _;rfl
theorem CA {I:Ca} {t e:TypeId} {x y:Operand} {k:IntKind} {l:Int} {sz b m cap:Nat} (ho:o.op= .slice t x (some y) none none) (ht:P.underlying t=some (.slice e)) (hz:Ap P e=some sz) (hx:VL E x (is (.slice (some ⟨b,0,none⟩) m cap))) (hy:VL E y (is (.int k l))) (h0:0≤l) (hl:l<m) (hc:m≤cap):
  Ad P I o E (is (.slice (some ⟨b,l.toNat*sz,none⟩) (m-l.toNat) (cap-l.toNat))):=
 Ad.same fun M w a he _=>by
  have h1:a.eval x=_:=hx.ev he (by simp [ho,Op.operands])
  have h3:a.eval y=_:=hy.ev he (by simp [ho,Op.operands])
  have hb:l≤(m:Int):=by omega
  have hne:¬cap=l.toNat:=by omega
  refine ⟨_,?_,rfl⟩
  simp [execOp,ho,h1,h3,Instr.sliceAt,Instr.slice,run_underlying ht,Instr.sliceBounds,Instr.sliceBound,asIntOf,h0,hb,Bb hz,hne,Co]
theorem ZF {M:Av} {w:World} {zs:List Value} {z:Array Value} {k:Nat} (hz:z.toList=zs) (h0:0<zs.length):HL M w (List.replicate k (zs.map is)).flatten (Builtin.zeroCells z k).toList:=by
 have hlr:∀r∈List.replicate k (zs.map is),r.length=zs.length:=fun r hr=>by rw [List.eq_of_mem_replicate hr,List.length_map]
 have hfl:=CY hlr
 rw [List.length_replicate] at hfl
 have hzs:z.size=zs.length:=by rw [←hz];simp
 refine Qh (by rw [Array.length_toList,size_zeroCells,hfl,hzs]) fun i p hi=> ?_
 have EO:i<k*zs.length:=by rw [←hfl];rcases Nat.lt_or_ge i (List.replicate k (zs.map is)).flatten.length with h|h;exact h;rw [List.getElem?_eq_none h] at hi;cases hi
 have hq:i/zs.length<k:=Nat.div_lt_of_lt_mul (by rw [Nat.mul_comm];exact EO)
 have hm:i % zs.length<zs.length:=Nat.mod_lt _ h0
 have he:i/zs.length*zs.length+i % zs.length=i:=by rw [Nat.mul_comm];exact Nat.div_add_mod i _
 rw [←he,HT hlr (by rw [List.getElem?_replicate,if_pos hq]) hm,List.getElem?_map,List.getElem?_eq_getElem hm] at hi
 simp only [Option.map_some,Option.some.injEq] at hi
 subst hi
 refine ⟨zs[i % zs.length],?_,rfl⟩
 have hzl:i<k*z.size:=by rw [hzs];exact EO
 simp only [Builtin.zeroCells,Array.toList_map,Array.toList_range,List.getElem?_map]
 rw [List.getElem?_range hzl]
 subst hz
 simp only [Option.map_some,Option.some.injEq]
 have hm':i % z.size<z.size:=by rw [hzs];exact hm
 rw [getElem!_pos z _ hm',←Array.getElem_toList]
 congr 1
theorem Qm {t e:TypeId} {x:Operand} {j:Nat} {new:Bool} {b off m cap sz:Nat} {zs:List Value} {T:TypeId} {ps ps':List Pr} (hg:o.guard=none) (ho:o.op= .call { callee:= .builtin .clear,args:= #[x],argTypes:= #[t] })
  (ht:P.underlying t=some (.slice e)) (hz:Ap P e=some sz) (C6:Bh P e=some zs) (hzl:zs.length=sz) (hone:zs.all (·.oneCell')=true) (hsz:0<sz) (hx:VL E x (is (.slice (some ⟨b,off,none⟩) m cap))) (hm:0<m)
  (hl:off+m*sz≤ps.length) (hps:ps.take off++(List.replicate m (zs.map is)).flatten++ps.drop (off+m*sz)=ps'):DU P M0 w0 S n j (SR.c (AE new b T ps)) (SR.c (AE new b T ps')) o E any:=by
 refine ⟨hg,fun M w a rs H7 he hI hj=> ?_⟩
 have h1:a.eval x=_:=hx.ev he (by simp [ho,Op.operands,Call.operands])
 unfold Bh at C6
 cases hi:P.info? e with
 |none=>rw [hi] at C6;cases C6
 |some i=>
  rw [hi] at C6
  simp only [Option.map_eq_some_iff] at C6
  obtain ⟨z,OG,C6⟩:=C6
  have Rl:z.cells.size=sz:=by rw [←hzl,←C6];simp
  obtain ⟨⟨_,cs,h4,h5,h6⟩,_⟩:=hI.hold _ (List.mem_of_getElem? hj)
  have X9:=h5.length
  have hzs:(Builtin.zeroCells z.cells m).size=m*sz:=by rw [size_zeroCells,Rl]
  have h3:∀c∈(Builtin.zeroCells z.cells m).toList,c.oneCell'=true:=Dw C6 hone
  have hrun:(storeCells ⟨b,off,none⟩ (Builtin.zeroCells z.cells m).toList 0).run P w= .ok () (w.setRow b (cs.take off++(Builtin.zeroCells z.cells m).toList++cs.drop (off+m*sz)).toArray):=by
   have:=run_storeCells_at (P:=P) b off T (Builtin.zeroCells z.cells m).toList 0 cs.toArray w h4 (by simp [hzs];omega) h3
   simpa [hzs] using this
  obtain ⟨m',rfl⟩:∃m',m=m'+1:=⟨m-1,by omega⟩
  have Cz:(execOp a.eval o).run P w= .ok (.value (.tuple #[])) (w.setRow b (cs.take off++(Builtin.zeroCells z.cells (m'+1)).toList++cs.drop (off+(m'+1)*sz)).toArray):=by
   simp [execOp,ho,h1,resolve,invoke,builtin,Builtin.clear_,run_underlying ht,zeroValue,typeInfo,hi,OG,hrun]
  rw [Cz]
  obtain ⟨h7, h8⟩ := BU.write (qs := ps') (cs := cs.take off ++ (Builtin.zeroCells z.cells (m' + 1)).toList ++ cs.drop (off + (m' + 1) * sz)) hI hj (by rw [← hps]; exact (((h5.take off).app (ZF C6 (by omega)))).app (h5.drop (off + (m' + 1) * sz)))
   (fun c hc=>by
    simp only [List.mem_append] at hc
    rcases hc with (hc|hc)|hc
    · exact h6 c (List.mem_of_mem_take hc)
    · exact h3 c hc
    · exact h6 c (List.mem_of_mem_drop hc))
  exact ⟨M,trivial,h8,h7⟩
theorem V_ {β:Type} {f:β→List Pr} {l:List β} {qs:List Pr} {sz:Nat} (hf:∀x,(f x).length=sz) {i:Nat} {x:β} (h:l[i]? =some x):((((l.map f).flatten++qs).drop (i*sz)).take sz)=f x:=by
 have hl:∀r∈l.map f,r.length=sz:=fun r hr=>by obtain ⟨y,_,rfl⟩:=List.mem_map.1 hr;exact hf y
 have hi:i<l.length:=by rcases Nat.lt_or_ge i l.length with h'|h';exact h';rw [List.getElem?_eq_none h'] at h;cases h
 have hfl:=CY hl
 rw [List.length_map] at hfl
 have hle:(i+1)*sz≤l.length*sz:=Nat.mul_le_mul_right sz hi
 rw [Nat.add_mul,Nat.one_mul] at hle
 apply List.ext_getElem?
 intro k
 rw [List.getElem?_take]
 split
 ·
  rename_i hk
  rw [List.getElem?_drop,List.getElem?_append_left (by rw [hfl];omega),HT hl (by rw [List.getElem?_map,h];rfl) hk]
 ·
  rename_i hk
  rw [List.getElem?_eq_none (by rw [hf];omega)]
theorem OP {β:Type} {f:β→List Pr} {sz:Nat} (hf:∀x,(f x).length=sz):∀{l:List β} {qs:List Pr} {i:Nat} {x:β},i<l.length→((l.map f).flatten++qs).take (i*sz)++f x++((l.map f).flatten++qs).drop (i*sz+sz)=((l.set i x).map f).flatten++qs
 |[],_,_,_,h=>by simp at h
 |a::l,qs,0,x,_=>by
  simp only [List.map_cons,List.flatten_cons,Nat.zero_mul,List.take_zero,List.nil_append,Nat.zero_add,List.set_cons_zero]
  rw [←hf a,List.append_assoc,List.drop_left,List.append_assoc]
 |a::l,qs,i+1,x,h=>by
  have ih:=OP hf (l:=l) (qs:=qs) (i:=i) (x:=x) (by simpa using h)
  simp only [List.map_cons,List.flatten_cons,List.set_cons_succ]
  have e1:(i+1)*sz=(f a).length+i*sz:=by rw [hf a,Nat.add_mul];omega
  rw [List.append_assoc,List.append_assoc,e1,List.take_append,List.take_of_length_le (by omega),show (f a).length+i*sz-(f a).length=i*sz by omega,show (f a).length+i*sz+sz=(f a).length+(i*sz+sz) by omega,List.drop_append,List.drop_of_length_le (by omega),show (f a).length+(i*sz+sz)-(f a).length=i*sz+sz by omega,List.nil_append,List.append_assoc (f a) _ qs,←ih]
  simp only [List.append_assoc]
theorem TO.M8 {ops:Array Oper} {r:List Oper} {Q:Exit→Act→World→Prop} {e:TypeId} {sz:Nat} {rows:List (List Pr)} {v:Value} (j:Nat) (hj:rs[j]? =some (C_ e sz rows v))
  (k:∀(b cap:Nat) (spare:List Value),v= .slice (some ⟨b,0,none⟩) rows.length cap→rows.length≤cap→cap≤maxLen→spare.length=(cap-rows.length)*sz→TO P n ops r E (Hp M0 w0 S (rs.set j (AE true b e (rows.flatten++spare.map is)))) Q):TO P n ops r E (Hp M0 w0 S rs) Q:=
 fun m hl a w hs=>let ⟨b,cap,spare,h1,h2,h3,h4,h5⟩:=hs.M8 j hj;k b cap spare h1 h2 h3 h4 m hl a w h5
theorem OQ {β:Type} {f:β→List Pr} {l:List β} {qs:List Pr} {sz:Nat} (hf:∀x,(f x).length=sz):((l.map f).flatten++qs).length=l.length*sz+qs.length:=by
 rw [List.length_append,CY (sz:=sz) (fun r hr=>by obtain ⟨y,_,rfl⟩:=List.mem_map.1 hr;exact hf y),List.length_map]
theorem Ak {β:Type} {f:β→List Pr} {l:List β} {sz:Nat} (hf:∀x,(f x).length=sz):∀r∈l.map f,r.length=sz:=fun r hr=>by obtain ⟨y,_,rfl⟩:=List.mem_map.1 hr;exact hf y
theorem St.PU {b cap sz:Nat} {e:TypeId} {rows:List (List Pr)} {qs:List Pr} (j d:Nat) {p:Pr} (hj:rs[j]? =some (AE true b e (rows.flatten++qs))) (hd:E.lookup d=some p) (hp:Pr.le p (is (.slice (some ⟨b,0,none⟩) rows.length cap)))
  (hl:∀r∈rows,r.length=sz) (hc:rows.length≤cap) (hm:cap≤maxLen) (hq:qs.length=(cap-rows.length)*sz)
  {a:Act} {w:World} (h:St n E (Hp M0 w0 S rs) a w):St n ((d,As (.slice (some ⟨b,0,none⟩) rows.length cap) (slice sz rows))::E) (Hp M0 w0 S (rs.set j (BJ e sz (.slice (some ⟨b,0,none⟩) rows.length cap)))) a w:=by
 obtain ⟨M,h1,h2,h3,h4⟩:=h
 obtain ⟨M',h5,h6,h7⟩:=BU.ZA h4 hj hl hc hm hq
 refine ⟨M',h1,h2,fun s q hs=> ?_,h6⟩
 simp only [List.lookup] at hs
 split at hs
 ·
  rename_i e1
  have:s=d:=by simpa using e1
  subst this
  simp only [Option.some.injEq] at hs
  subst hs
  have h8:=hp _ _ _ (h3 _ _ hd)
  exact ⟨h8,by rw [show a.tmps.getD s undef=_ from h8];exact h7⟩
 · exact q.st _ _ _ _ _ h5 (h3 s q hs)
theorem Tr.PU {Q:Exit→Act→World→Prop} {c:Code} {b cap sz:Nat} {e:TypeId} (rows:List (List Pr)) {qs:List Pr} (j d:Nat) {p:Pr} (hj:rs[j]? =some (AE true b e (rows.flatten++qs))) (hd:E.lookup d=some p) (hp:Pr.le p (is (.slice (some ⟨b,0,none⟩) rows.length cap)))
  (hl:∀r∈rows,r.length=sz) (hc:rows.length≤cap) (hm:cap≤maxLen) (hq:qs.length=(cap-rows.length)*sz)
  (k:Tr L n ((d,As (.slice (some ⟨b,0,none⟩) rows.length cap) (slice sz rows))::E) (Hp M0 w0 S (rs.set j (BJ e sz (.slice (some ⟨b,0,none⟩) rows.length cap)))) c Q):Tr L n E (Hp M0 w0 S rs) c Q:=
 Tr.conv (fun _ _ hs=>hs.PU j d hj hd hp hl hc hm hq) k
theorem Fin.PU {Q:Exit→Act→World→Prop} {x:Exit} {b cap sz:Nat} {e:TypeId} (rows:List (List Pr)) {qs:List Pr} (j d:Nat) {p:Pr} (hj:rs[j]? =some (AE true b e (rows.flatten++qs))) (hd:E.lookup d=some p) (hp:Pr.le p (is (.slice (some ⟨b,0,none⟩) rows.length cap)))
  (hl:∀r∈rows,r.length=sz) (hc:rows.length≤cap) (hm:cap≤maxLen) (hq:qs.length=(cap-rows.length)*sz)
  (k:Fin n ((d,As (.slice (some ⟨b,0,none⟩) rows.length cap) (slice sz rows))::E) (Hp M0 w0 S (rs.set j (BJ e sz (.slice (some ⟨b,0,none⟩) rows.length cap)))) Q x):Fin n E (Hp M0 w0 S rs) Q x:=
 Fin.conv (fun _ _ hs=>hs.PU j d hj hd hp hl hc hm hq) k
end
section
variable {P:Program} {L:Lg P} {n:Fm} {fz:Nat} {E:Env} {M0:Av} {w0:World} {S:Nat→Prop} {rs:List BO} {o:Oper} {g:Func} {M1:Av} {w1:World}
def JZ (T:TypeId) (ps:List Pr) (v:Value):BO:=match v with| .pointer (some a)=>AE true a.block T ps|_=>Bm
theorem G7 {d j:Nat} {T:TypeId} {zs:List Value} (hg:o.guard=none) (hd:o.dst=some d) (hn:d<n) (ho:o.op= .alloc T) (hz:Bh P T=some zs) (h1':zs.all (·.oneCell')=true):
  DU P M0 w0 S n j (SR.c Bm) ⟨d,JZ T (zs.map is)⟩ o E (Cp.ex fun b=>ptr b 0):=by
 refine ⟨hg,fun M w a rs H7 he hI hj=> ?_⟩
 have h1:∀c∈zs,c.oneCell'=true:=fun c hc=>List.all_eq_true.1 h1' c hc
 obtain ⟨z,Hx,YL⟩:=QW hz w
 have hrun:(execOp a.eval o).run P w= .ok (.value (.pointer (some ⟨w.heap.size,0,none⟩))) (w.alloc (.cells zs.toArray T)):=by simp [execOp,ho,Instr.alloc,Hx,newVar,newRow,←YL]
 rw [hrun]
 have hb:Below w.heap.size w (w.alloc (.cells zs.toArray T)):=(Below.refl _ _).alloc (Nat.le_refl _) _
 have h2:=Ext.below (M:=M) hb
 have DV:Ext M w (fun b o=>M b o∨b=w.heap.size) (w.alloc (.cells zs.toArray T)):=by
  refine ⟨h2.size,fun a v hc hm=>⟨fun hx=> ?_,(h2.keep a v hc hm).2⟩,fun b o ho hp hm=>⟨fun hx=> ?_,(h2.obj b o ho hp hm).2⟩⟩
  ·
   rcases hx with hx|hx
   · exact hm hx
   · have:=D3 hc;omega
  ·
   rcases hx with hx|hx
   · exact hm hx
   · subst hx;simp at ho
 have hs1:(w.alloc (.cells zs.toArray T)).heap.size=w.heap.size+1:=by simp
 have Mz:(SR.at_ (a.put o.dst (.pointer (some ⟨w.heap.size,0,none⟩))) ⟨d,JZ T (zs.map is)⟩)=AE true w.heap.size T (zs.map is):=by unfold SR.at_ Slot.val;dsimp only;rw [hd,B2 (by rw [H7];exact hn)];rfl
 refine ⟨fun b o=>M b o∨b=w.heap.size,⟨_,rfl⟩,DV,?_⟩
 rw [Mz]
 refine hI.replace hj DV hb.os hb.tape hb.output (fun k hk _=>hb.block k hk) rfl (fun b o hm _=> .inl hm) (fun b o hx=> ?_) ?_ rfl (fun b hbk=> ?_)
 ·
  rcases hx with hx|hx
  · have:=hI.bd _ _ hx;omega
  · omega
 · refine ⟨fun o=> .inr rfl,zs,heap_alloc_new w _,LM _ _ _,h1⟩
 ·
  have EX:some w.heap.size=some b:=hbk
  injection EX with e1
  subst e1
  exact ⟨by rw [hs1];omega,.inr (Nat.le_refl _)⟩
theorem G8 {t:TypeId} {s:Tmp} {y:Operand} {j m:Nat} {T:TypeId} {ps qs:List Pr} (hg:o.guard=none) (hd:o.dst=none) (ho:o.op= .store t (.tmp s) y) (hx:E.lookup s=some (Cp.ex fun b=>ptr b 0)) (hy:VL E y (Dp qs))
  (hz:Ap P t=some m) (hm:qs.length=m) (hl:ps.length=m):DU P M0 w0 S n j ⟨s,JZ T ps⟩ ⟨s,JZ T qs⟩ o E any:=by
 refine ⟨hg,fun M w a rs hsz he hI hj=> ?_⟩
 have hxv:VL E (.tmp s) (Cp.ex fun b=>ptr b 0):=⟨_,hx,Pr.le_refl _⟩
 obtain ⟨b,h1'⟩:=hxv.ev he (show (Operand.tmp s)∈o.op.operands.toList by simp [ho,Op.operands])
 have h1:a.eval (.tmp s)= .pointer (some ⟨b,0,none⟩):=h1'
 have h1t:a.tmps.getD s undef= .pointer (some ⟨b,0,none⟩):=h1
 have hj':rs[j]? =some (AE true b T ps):=by
  rw [hj];show some (JZ T ps (a.tmps.getD s undef))=_;rw [h1t];rfl
 obtain ⟨h2,h3⟩:=hy.ev he (show y∈o.op.operands.toList by simp [ho,Op.operands])
 obtain ⟨⟨_,cs,h4,h5,h6⟩,_⟩:=hI.hold _ (List.mem_of_getElem? hj')
 have X9:=h5.length
 have bF:=h2.length
 have hcells:(a.eval y).cells.size=m:=by rw [←hm,←bF];simp
 have hrun:(storeCells ⟨b,0,none⟩ (a.eval y).cells.toList 0).run P w= .ok () (w.setRow b (cs.take 0++(a.eval y).cells.toList++cs.drop (0+m)).toArray):=by
  have:=run_storeCells_at (P:=P) b 0 T (a.eval y).cells.toList 0 cs.toArray w h4 (by simp;omega) h3
  simpa [hcells] using this
 have jh:cs.drop (0+m)=[]:=List.drop_eq_nil_of_le (by omega)
 rw [jh,List.take_zero,List.nil_append,List.append_nil] at hrun
 have Cz:(execOp a.eval o).run P w= .ok .skip (w.setRow b (a.eval y).cells.toList.toArray):=by
  simp only [execOp,ho,h1,Instr.storeAt,Instr.sureAddr,storeVar]
  simp [Bb hz,hcells,hrun]
 rw [Cz]
 obtain ⟨h7,h8⟩:=BU.write (qs:=qs) (cs:=(a.eval y).cells.toList) hI hj' h2 h3
 refine ⟨M,trivial,h8,?_⟩
 have Mz:(SR.at_ (a.put o.dst undef) ⟨s,JZ T qs⟩)=AE true b T qs:=by
  rw [hd];show JZ T qs (a.tmps.getD s undef)=_;rw [h1t];rfl
 rw [Mz];exact h7
theorem Fin.R3 {Q:Exit→Act→World→Prop} {x:Exit} (s j:Nat) {v:Value} {f:Value→BO} (g:Nat→BO) (hs:E.lookup s=some (As v (Cp.ex fun b=>ptr b 0))) (hi:rs[j]? =some (f v)) (hf:∀b,f (.pointer (some ⟨b,0,none⟩))=g b)
  (k:∀b,Fin n ((s,ptr b 0)::E) (Hp M0 w0 S (rs.set j (g b))) Q x):Fin n E (Hp M0 w0 S rs) Q x:=by
 intro a w hst
 obtain ⟨M,h1,h2,he,h4⟩:=hst
 obtain ⟨h5,b,h6⟩:=he s _ hs
 have hv:v= .pointer (some ⟨b,0,none⟩):=by rw [←h5];exact h6
 have hj:rs.set j (g b)=rs:=by
  have hjl:j<rs.length:=by rcases Nat.lt_or_ge j rs.length with h|h;exact h;rw [List.getElem?_eq_none h] at hi;cases hi
  rw [←hf b,←hv]
  rw [List.getElem?_eq_getElem hjl] at hi
  simp at hi
  rw [←hi,List.set_getElem_self]
 refine k b a w ⟨M,h1,h2,?_,by rw [hj];exact h4⟩
 intro t q hq
 simp only [List.lookup] at hq
 by_cases ht:t=s
 · subst ht;simp at hq;subst hq;exact h6
 · rw [show (t==s)=false by simpa using ht] at hq;exact he t q hq
end
section
variable {P:Program} {L:Lg P} {n:Fm} {fz:Nat} {E:Env} {M0:Av} {w0:World} {S:Nat→Prop} {rs:List BO} {o:Oper}
def B0 (e:TypeId) (sz:Nat) (rows:List (List Pr)) (v:Value):BO where
 IB:=match v with| .slice (some a) _ _=>some a.block|_=>none
 new:=true
 h M w:=(rows=[]∧v= .slice none 0 0)∨(C_ e sz rows v).h M w
 st M w M' w' he hk h:=h.imp id fun h=>(C_ e sz rows v).st M w M' w' he hk h
theorem Tr.R9 {Q:Exit→Act→World→Prop} {c:Code} (e:TypeId) (sz:Nat) (k:Tr L n E (Hp M0 w0 S (B0 e sz [] (.slice none 0 0)::rs)) c Q):Tr L n E (Hp M0 w0 S rs) c Q:=
 Tr.conv (fun _ _ ⟨M,h1,h2,h3,h4⟩=>⟨M,h1,h2,h3,BU.Ms h4 (r:=B0 e sz [] (.slice none 0 0)) rfl (Or.inl ⟨rfl,rfl⟩)⟩) k
theorem ZG {M:Av} {w:World} {t ty e:TypeId} {sz bytes:Nat} {zs:List Value} {rows Ai:List (List Pr)} {v u:Value} {j:Nat} (ht:P.underlying t=some (.slice e)) (hz:Ap P e=some sz) (hby:CI P e=some bytes) (C6:Bh P e=some zs) (hzl:zs.length=sz) (hone:zs.all (·.oneCell')=true) (hsz:0<sz)
  (h:BU M0 w0 S rs M w) (hj:rs[j]? =some (B0 e sz rows v)) (hl:∀r∈rows,r.length=sz) (hu:(slice sz Ai).h M w u) (hpos:0<Ai.length) (EB:rows.length+Ai.length≤maxLen) (hfit:(rows.length+Ai.length)*bytes≤140737488355328):
  ∃v' w' M',(Builtin.append_ #[t,t] ty #[v,u]).run P w= .ok v' w'∧(lens (rows.length+Ai.length)).h M' w' v'∧Ext M w M' w'∧BU M0 w0 S (rs.set j (B0 e sz (rows++Ai) v')) M' w':=by
 have hjl:j<rs.length:=by rcases Nat.lt_or_ge j rs.length with h|h;exact h;rw [List.getElem?_eq_none h] at hj;cases hj
 rcases (h.hold _ (List.mem_of_getElem? hj)).1 with ⟨rfl,rfl⟩|dc
 ·
  have h1:=h.Db (r':=Bm) hj rfl rfl trivial
  have mg:(rs.set j Bm)[j]? =some Bm:=List.getElem?_set_self hjl
  obtain ⟨v',w',M',hrun,h2,h3,h4⟩:=Y_ (ty:=ty) ht hz hby C6 hzl hone hsz h1 mg hu hpos (by simpa using EB) (by simpa using hfit)
  rw [List.set_set] at h4
  have h5:=h4.Db (r':=B0 e sz ([]++Ai) v') (List.getElem?_set_self hjl) rfl rfl (.inr (h4.hold _ (List.mem_of_getElem? (List.getElem?_set_self hjl))).1)
  rw [List.set_set] at h5
  exact ⟨v',w',M',hrun,by simpa using h2,h3,h5⟩
 ·
  obtain ⟨b,cap,spare,rfl,hnc,hcm,hsp,Th⟩:=dc
  have hC:=h.Db (r':=AE true b e (rows.flatten++spare.map is)) hj rfl rfl Th
  have mh:(rs.set j (AE true b e (rows.flatten++spare.map is)))[j]? =some (AE true b e (rows.flatten++spare.map is)):=List.getElem?_set_self hjl
  obtain ⟨⟨hMb,cs,bY,hcs,Qn⟩,bE⟩:=hC.hold _ (List.mem_of_getElem? mh)
  have hfl:=CY hl
  have Vr:=hcs.length
  rw [List.length_append,hfl,List.length_map,hsp,←Nat.add_mul,show rows.length+(cap-rows.length)=cap by omega] at Vr
  unfold Ap at hz
  unfold CI at hby
  unfold Bh at C6
  cases hi:P.info? e with
  |none=>rw [hi] at hz;cases hz
  |some i=>
   rw [hi] at hz hby C6
   simp only [Option.map_some,Option.some.injEq,Option.map_eq_some_iff] at hz hby C6
   obtain ⟨z,OG,C6⟩:=C6
   have Rl:z.cells.size=sz:=by rw [←hzl,←C6];simp
   obtain ⟨A',c',rfl,Vm,Mq,UT,D0⟩:=hu
   have IA:(slice sz Ai).h M w (.slice A' Ai.length c'):=⟨A',c',rfl,Vm,Mq,UT,D0⟩
   obtain ⟨JA,rfl⟩:∃JA,A'=some JA:=by
    obtain ⟨_,b,hb,_⟩:=D0 0 _ (List.getElem?_eq_getElem hpos)
    exact ⟨b,hb⟩
   obtain ⟨news,OR,hcell⟩:=Dq hsz IA
   have NC:=OR.1
   have hnews:=OR.hl hsz
   have hT:HL M w rows.flatten (cs.take (rows.length*sz)):=by
    have:=hcs.take (rows.length*sz)
    rwa [←hfl,List.take_left,hfl] at this
   have hne:(.slice (some ⟨b,0,none⟩) (rows++Ai).length cap:Value)= .slice (some ⟨b,0,none⟩) (rows.length+Ai.length) cap:=by rw [List.length_append]
   by_cases hroom:rows.length+Ai.length≤cap
   ·
    have hle:(rows.length+Ai.length)*sz≤cap*sz:=Nat.mul_le_mul_right sz hroom
    rw [Nat.add_mul] at hle
    have hrun:=run_append_room (P:=P) (w:=w) t ty e i ht hi b rows.length cap cs.toArray bY JA Ai.length c' news (by rw [hz];exact NC) (fun k u hk=>(hcell k u hk).1) OR.2.1 hroom (by rw [hz,NC];simp;omega)
    rw [hz,NC] at hrun
    have hD:HL M w ((spare.drop (Ai.length*sz)).map is) (cs.drop (rows.length*sz+Ai.length*sz)):=by
     have:=hcs.drop (rows.length*sz+Ai.length*sz)
     have e1:(rows.flatten++spare.map is).drop (rows.length*sz+Ai.length*sz)=(spare.drop (Ai.length*sz)).map is:=by rw [←hfl,←List.drop_drop,List.drop_left,List.map_drop]
     rwa [e1] at this
    obtain ⟨hW,hX⟩:=BU.write (qs:=rows.flatten++Ai.flatten++(spare.drop (Ai.length*sz)).map is) (cs:=cs.take (rows.length*sz)++news++cs.drop (rows.length*sz+Ai.length*sz)) hC mh ((hT.app hnews).app hD) (fun c hc=>by
     simp only [List.mem_append] at hc
     rcases hc with (hc|hc)|hc
     · exact Qn c (List.mem_of_mem_take hc)
     · exact OR.2.1 c hc
     · exact Qn c (List.mem_of_mem_drop hc))
    rw [List.set_set] at hW
    refine ⟨_,_,M,hrun,⟨_,_,rfl⟩,hX,?_⟩
    have hW2 := hW.Db (r' := B0 e sz (rows ++ Ai) (.slice (some ⟨b, 0, none⟩) (rows.length + Ai.length) cap)) (List.getElem?_set_self hjl) rfl rfl (.inr ⟨b, cap, spare.drop (Ai.length * sz), hne.symm, by rw [List.length_append]; exact hroom, hcm, by
     rw [List.length_drop,hsp,List.length_append,←Nat.sub_mul];congr 1;omega,by
     rw [List.flatten_append];exact (hW.hold _ (List.mem_of_getElem? (List.getElem?_set_self hjl))).1⟩)
    rw [List.set_set] at hW2
    exact hW2
   ·
    have hg:cap<rows.length+Ai.length:=by omega
    have holds:∀k u,(cs.take (rows.length*sz))[k]? =some u→w.cell? ((⟨b,0,none⟩:Addr).add k)=some u:=by
     intro k u hk
     have hk2:cs[k]? =some u:=by
      rw [List.getElem?_take] at hk
      split at hk
      · exact hk
      · cases hk
     rw [Co]
     simp [World.cell?,bY,hk2]
    have hto:(cs.take (rows.length*sz)).length=rows.length*sz:=by rw [List.length_take,Vr];exact Nat.min_eq_left (Nat.mul_le_mul_right sz hnc)
    have hrun:=run_append_grow (P:=P) (w:=w) t ty e i z ht hi OG ⟨b,0,none⟩ rows.length cap (cs.take (rows.length*sz)) (by rw [hz];exact hto) holds JA Ai.length c' news (by rw [hz];exact NC) (fun k u hk=>(hcell k u hk).1) hg (by unfold maxLen at EB;omega) (by rw [hby];exact growslice_fits hg hfit)
    generalize hcap:grownCap w (rows.length+Ai.length) cap e=cap' at hrun
    have hge:rows.length+Ai.length≤cap':=by rw [←hcap];exact grownCap_ge _ _ _ _
    have hle:cap'≤maxLen:=by rw [←hcap];exact grownCap_le_maxLen _ _ _ _ EB
    generalize Nx:Builtin.zeroCells z.cells (cap'-(rows.length+Ai.length))=zc at hrun
    have hzs:zc.size=(cap'-(rows.length+Ai.length))*sz:=by rw [←Nx,size_zeroCells,Rl]
    have jf:∀c∈zc.toList,c.oneCell'=true:=by rw [←Nx];exact Dw C6 hone
    generalize dg:((cs.take (rows.length*sz)).toArray++news.toArray++zc)=arr at hrun
    have Md:arr.toList=cs.take (rows.length*sz)++news++zc.toList:=by rw [←dg];simp
    have hb:Below w.heap.size w (w.drew.alloc (.cells arr e)):=((Below.refl _ _).drew).alloc (Nat.le_refl _) _
    have h2:=Ext.below (M:=M) hb
    have DV:Ext M w (fun b o=>M b o∨b=w.heap.size) (w.drew.alloc (.cells arr e)):=by
     refine ⟨h2.size,fun a v hc hm=>⟨fun hx=> ?_,(h2.keep a v hc hm).2⟩,fun b o ho hp hm=>⟨fun hx=> ?_,(h2.obj b o ho hp hm).2⟩⟩
     ·
      rcases hx with hx|hx
      · exact hm hx
      · have:=D3 hc;omega
     ·
      rcases hx with hx|hx
      · exact hm hx
      · subst hx;simp at ho
    have hs1:(w.drew.alloc (.cells arr e)).heap.size=w.heap.size+1:=by simp
    refine ⟨_,_,fun b o=>M b o∨b=w.heap.size,hrun,⟨_,_,rfl⟩,DV,?_⟩
    refine h.replace hj DV hb.os hb.tape hb.output (fun k hk _=>hb.block k hk) rfl (fun b o hm _=> .inl hm) (fun b o hx=> ?_) ?_ rfl (fun b hbk=> ?_)
    ·
     rcases hx with hx|hx
     · have:=h.bd _ _ hx;omega
     · omega
    ·
     refine .inr ⟨w.heap.size,cap',zc.toList,by rw [List.length_append],by rw [List.length_append];exact hge,hle,by rw [List.length_append];simpa using hzs,fun o=> .inr rfl,arr.toList,?_,?_,?_⟩
     ·
      have hh:(w.drew.alloc (.cells arr e)).heap[w.heap.size]? =some (.cells arr e (0,0)):=heap_alloc_new w.drew _
      rw [hh]
     · rw [Md,List.flatten_append];exact ((hT.st DV).app ((OR.st DV).hl hsz)).app (LM _ _ _)
     ·
      intro c hc
      rw [Md] at hc
      simp only [List.mem_append] at hc
      rcases hc with (hc|hc)|hc
      · exact Qn c (List.mem_of_mem_take hc)
      · exact OR.2.1 c hc
      · exact jf c hc
    ·
     have EX:some w.heap.size=some b:=hbk
     injection EX with e1
     subst e1
     exact ⟨by rw [hs1];omega,.inr (Nat.le_refl _)⟩
theorem EK {t e:TypeId} {x y:Operand} {sz bytes d:Nat} {zs:List Value} {rows Ai:List (List Pr)} {v:Value} {p:Pr} {j:Nat} (hg:o.guard=none) (hd:o.dst=some d) (hn:d<n) (ho:o.op= .call { callee:= .builtin .append,args:= #[x,y],argTypes:= #[t,t] })
  (ht:P.underlying t=some (.slice e)) (hz:Ap P e=some sz) (hby:CI P e=some bytes) (C6:Bh P e=some zs) (hzl:zs.length=sz) (hone:zs.all (·.oneCell')=true) (hsz:0<sz)
  (hx:VL E x (As v p)) (hy:VL E y (slice sz Ai)) (hl:∀r∈rows,r.length=sz) (hpos:0<Ai.length) (EB:rows.length+Ai.length≤maxLen) (hfit:(rows.length+Ai.length)*bytes≤140737488355328):DU P M0 w0 S n j (SR.c (B0 e sz rows v)) ⟨d,B0 e sz (rows++Ai)⟩ o E (lens (rows.length+Ai.length)):=by
 refine ⟨hg,fun M w a rs H7 he hI hj=> ?_⟩
 have h1:a.eval x=v:=(hx.ev he (by simp [ho,Op.operands,Call.operands])).1
 have h2:=hy.ev he (by simp [ho,Op.operands,Call.operands])
 obtain ⟨v',w',M',hrun,h3,h4,h5⟩:=ZG (ty:=o.type) ht hz hby C6 hzl hone hsz hI hj hl h2 hpos EB hfit
 have Cz:(execOp a.eval o).run P w= .ok (.value v') w':=by simp [execOp,ho,resolve,invoke,builtin,h1,hrun]
 rw [Cz]
 refine ⟨M',h3,h4,?_⟩
 have:(SR.at_ (a.put o.dst v') ⟨d,B0 e sz (rows++Ai)⟩)=B0 e sz (rows++Ai) v':=by unfold SR.at_ Slot.val;dsimp only;rw [hd,B2 (by rw [H7];exact hn)]
 rw [this];exact h5
theorem BU.ji {M:Av} {w:World} {sz:Nat} {e:TypeId} {rows:List (List Pr)} {v:Value} {j:Nat} (h:BU M0 w0 S rs M w) (hj:rs[j]? =some (B0 e sz rows v)) (hl:∀r∈rows,r.length=sz):
  ∃M',Ext M w M' w∧BU M0 w0 S (rs.set j (BJ e sz v)) M' w∧(slice sz rows).h M' w v:=by
 have hjl:j<rs.length:=by rcases Nat.lt_or_ge j rs.length with h|h;exact h;rw [List.getElem?_eq_none h] at hj;cases hj
 rcases (h.hold _ (List.mem_of_getElem? hj)).1 with ⟨rfl,rfl⟩|dc
 · exact ⟨M,Ext.refl _ _,h.Db hj rfl rfl (by intro a n c hv;cases hv),AB sz M w _ rfl⟩
 ·
  obtain ⟨b,cap,spare,rfl,hnc,hcm,hsp,Th⟩:=dc
  have hC:=h.Db (r':=AE true b e (rows.flatten++spare.map is)) hj rfl rfl Th
  obtain ⟨M',h1,h2,h3⟩:=BU.ZA hC (List.getElem?_set_self hjl) hl hnc hcm (by rw [List.length_map];exact hsp)
  rw [List.set_set] at h2
  exact ⟨M',h1,h2,h3⟩
end
section
variable {P:Program} {L:Lg P} {n:Fm} {fz:Nat} {E:Env} {M0:Av} {w0:World} {S:Nat→Prop} {rs:List BO} {o:Oper} {ops:Array Oper} {r:List Oper}
def jj (P:Program) (f:FuncId) (args:List Pr) (res:Pr) (r:BO) (r':BO) (r2:BO):Prop:=Entry P f∧∀M0 w0 S rs M w vs,BU M0 w0 S (r::r2::rs) M w→HL M w args vs→
 Calls P f vs.toArray w fun e w'=>∃v M',e= .returned v∧res.h M' w' v∧Ext M w M' w'∧BU M0 w0 S (r'::r2::rs) M' w'
theorem jj.of {f : FuncId} {g : Func} {c : Code} {ps : List Pr} {res : Pr} {R R' R2 : BO} (hf : P.funcs[f]? = some g) (hb : g.body = some c) (hname : (g.name == "runtime.NumGoroutine") = false) (hlen : ps.length ≤ g.ntmps)
  (h:∀M0 w0 S rs M1 w1,Tr (cT P) g.ntmps (Ld 0 ps) (Hp M0 w0 S (R::Bv M1 w1::R2::rs)) c (bodyPost P g (TP M0 w0 S (R2::rs) M1 w1 res (fun _=>R')))):jj P f ps res R R' R2:=by
 refine ⟨⟨g,hf,hname,by rw [hb];rfl⟩,fun M0 w0 S rs M w vs hI hv=> ?_⟩
 refine calls_of_wp hf hb (h M0 w0 S rs M w _ _ ⟨M,?_,rfl,Iq hv,?_⟩)
 ·
  have:=hv.length
  simp [this];omega
 · exact BU.perm (List.Perm.swap _ _ _) (BU.Ms hI (r:=Bv M w) rfl (Ext.refl _ _))
end
abbrev Ja (k:IntKind):Pr:=Cp.ex fun i:Int=>is (.int k i)
theorem Cf (k:IntKind) (i:Int):Pr.le (is (.int k i)) (Ja k):=fun _ _ _ h=>⟨i,h⟩
section
variable {P:Program} {L:Lg P} {I:Ca} {o:Oper} {E:Env}
theorem ZH {op:BinOp} {t u:TypeId} {x y:Operand} {k:IntKind} (hop:(op== .xor||op== .or)=true) (ho:o.op= .binOp op t x y u) (hx:VL E x (Ja k)) (hy:VL E y (Ja k)):Ad P I o E (Ja k):=
 Ad.same fun M w a he _=>by
  obtain ⟨m,h1⟩:=hx.ev he (by simp [ho,Op.operands])
  obtain ⟨n,h2⟩:=hy.ev he (by simp [ho,Op.operands])
  have h1:a.eval x= .int k m:=h1
  have h2:a.eval y= .int k n:=h2
  cases op<;>simp at hop<;>exact ⟨_,by simp [execOp,ho,h1,h2,eqGuard,binOp,Op.intBits];rfl,_,rfl⟩
end
theorem OS {β:Type} {f:β→List Pr} {l:List β} {qs:List Pr} {sz:Nat} (hf:∀x,(f x).length=sz) {i:Int} (h:i.toNat<l.length):((((l.map f).flatten++qs).drop (0+i.toNat*sz)).take sz)=f (l[i.toNat]'h):=by
 rw [Nat.zero_add];exact V_ hf (List.getElem?_eq_getElem h)
theorem ND {β:Type} {f:β→List Pr} {sz:Nat} (hf:∀x,(f x).length=sz) {l:List β} {qs:List Pr} {i:Int} {x:β} (h:i.toNat<l.length):((l.map f).flatten++qs).take (0+i.toNat*sz)++f x++((l.map f).flatten++qs).drop (0+i.toNat*sz+sz)=((l.set i.toNat x).map f).flatten++qs:=by
 rw [Nat.zero_add];exact OP hf h
theorem NF {β:Type} {l:List β} {i j:Int} (hi:i.toNat<l.length) (hj:j.toNat<l.length):((l.set i.toNat (l[j.toNat]'hj)).set j.toNat (l[i.toNat]'hi)).Perm l:=List.set_set_perm hi hj
section
variable {P:Program} {L:Lg P} {n:Fm} {fz:Nat} {E:Env} {M0:Av} {w0:World} {S:Nat→Prop} {rs:List BO} {o:Oper} {β:Type} {b:Nat} {e:TypeId} {f:β→List Pr} {qs:List Pr} {Φ:List β→Prop}
instance (priority:=300) jk (b:Bool) (p:Prop) [h:FX b false p]:FX (!b) true p:=⟨fun e=>h.Gp (by simpa using e)⟩
instance (priority:=300) jl (b:Bool) (p:Prop) [h:FX b true p]:FX (!b) false p:=⟨fun e=>h.Gp (by simpa using e)⟩
end
end Cp
namespace Cp
open Go.Sort
section
variable {β:Type} [Inhabited β] {c:β×β→Int} {st:List β} {a b i j:Int}
def gJ (c:β×β→Int) (x y:β):Bool:=decide (c (x,y)<0)
theorem gx (h:i.toNat<st.length):st.toArray[i.toNat]! =st[i.toNat]:=by simp [h]
theorem sw (hi:i.toNat<st.length) (hj:j.toNat<st.length):((st.set i.toNat (st[j.toNat]'hj)).set j.toNat (st[i.toNat]'hi)).toArray=swp st.toArray i.toNat j.toNat:=by
 unfold swp
 rw [gx hi,gx hj]
 simp [Array.setIfInBounds_def,hi,hj]
omit [Inhabited β] in
theorem jm {x y:β} (h:¬c (x,y)<0):gJ c x y=false:=decide_eq_false h
variable {hi F r:Int}
variable {lt:β→β→Bool} {a0 b0 m n:Nat} {l s s':Array β}
structure PS (lt:β→β→Bool) (a0 b0 a b:Nat) (l s:Array β):Prop where
 ha:a0≤a
 hab:a≤b
 hb:b≤b0
 hp:PermIn a0 b0 l s
 below:Below lt a b s
 out:∀i j,a0≤i→i<j→j<b0→(i<a∨b≤j)→lt s[j]! s[i]! =false
theorem PS.perm (h:PS lt a0 b0 m n l s) (hs:b0≤l.size) (hq:PermIn m n s s'):PS lt a0 b0 m n l s':=by
 have hsz:s.size=l.size:=h.hp.1
 have X_:n≤s.size:=by have:=h.hb;omega
 refine ⟨h.ha,h.hab,h.hb,permIn_trans _ _ _ _ _ h.hp (permIn_mono _ _ _ _ _ _ h.ha h.hb (by omega) hq),Below.permA permIn_all X_ h.below hq,fun i j h1 h2 h3 h4=> ?_⟩
 have hm:=h.hab
 by_cases hi:m≤i∧i<n
 ·
  have hj:n≤j:=by omega
  rw [hq.2.1 j (.inr hj)]
  exact permIn_all s s' m n (fun x=>lt s[j]! x=false) X_ hq (fun k hk1 hk2=>h.out k j (by have:=h.ha;omega) (by omega) h3 (.inr hj)) i hi.1 hi.2
 ·
  rw [hq.2.1 i (by omega)]
  by_cases hj:m≤j∧j<n
  · exact permIn_all s s' m n (fun x=>lt x s[i]! =false) X_ hq (fun k hk1 hk2=>h.out i k h1 (by omega) (by have:=h.hb;omega) (.inl (by omega))) j hj.1 hj.2
  · rw [hq.2.1 j (by omega)];exact h.out i j h1 h2 h3 h4
theorem PS.done (h:PS lt a0 b0 m n l s) (hs:SortedIn lt m n s):PermIn a0 b0 l s∧SortedIn lt a0 b0 s:=by
 refine ⟨h.hp,fun i j h1 h2 h3=> ?_⟩
 by_cases hh:i<m∨n≤j
 · exact h.out i j h1 h2 h3 hh
 · exact hs i j (by omega) h2 (by omega)
theorem PS.eq (hw:SWO lt) (h:PS lt a0 b0 m n l s) (hs:b0≤l.size) {pv:β} {k:Nat} (hm:0<m) (QN:lt s[m-1]! pv=false) (hk:m<k) (hkn:k≤n) (hq:PermIn m n s s') (h1:∀i,m≤i→i<k→lt pv s'[i]! =false) (h2:∀i,k≤i→i<n→lt pv s'[i]! =true):
  PS lt a0 b0 k n l s':=by
 have h':=h.perm hs hq
 have hle:∀j,m≤j→j<n→lt s'[j]! pv=false:=by
  intro j mg hj2
  by_cases hjk:k≤j
  · exact hw.asym (h2 j hjk hj2)
  ·
   have hb:=h'.below
   rcases hb with hb|hb
   · omega
   ·
    have hb:=hb j mg hj2
    rw [hq.2.1 (m-1) (.inl (by omega))] at hb
    exact hw.ntrans _ _ _ hb QN
 have key:∀i j,m≤i→i<k→m≤j→j<n→lt s'[j]! s'[i]! =false:=fun i j ha hb hc hd=>hw.ntrans _ _ _ (hle j hc hd) (h1 i ha hb)
 refine ⟨by have:=h.ha;omega,hkn,h.hb,h'.hp,.inr fun i hi1 hi2=>key (k-1) i (by omega) (by omega) (by omega) hi2,fun i j g1 g2 g3 g4=> ?_⟩
 by_cases hh:i<m∨n≤j
 · exact h'.out i j g1 g2 g3 hh
 · exact key i j (by omega) (by omega) (by omega) (by omega)
structure WA (lt:β→β→Bool) (m n k:Nat) (s:Array β):Prop where
 h1:m≤k
 h2:k<n
 lo:∀i,m≤i→i<k→lt s[i]! s[k]! =true
 up:∀i,k<i→i<n→lt s[i]! s[k]! =false
theorem PS.left (hw:SWO lt) {k:Nat} (h:PS lt a0 b0 m n l s) (hs:b0≤l.size) (hp:WA lt m n k s) (hq:PermIn m k s s') (mj:SortedIn lt m k s'):PS lt a0 b0 (k+1) n l s':=by
 obtain ⟨h1,h2,lo,up⟩:=hp
 have hsz:s.size=l.size:=h.hp.1
 have hks:k≤s.size:=by have:=h.hb;omega
 have QS:PermIn m n s s':=permIn_mono _ _ _ _ _ _ (Nat.le_refl _) (by omega) (by have:=h.hb;omega) hq
 have h':=h.perm hs QS
 have ek:s'[k]! =s[k]! :=hq.2.1 k (.inr (Nat.le_refl _))
 have lo':∀i,m≤i→i<k→lt s'[i]! s[k]! =true:=fun i g1 g2=>permIn_all s s' m k (fun x=>lt x s[k]! =true) hks hq lo i g1 g2
 have up':∀i,k<i→i<n→lt s'[i]! s[k]! =false:=fun i g1 g2=>by rw [hq.2.1 i (.inr (by omega))];exact up i g1 g2
 refine ⟨by have:=h.ha;omega,by omega,h.hb,h'.hp,.inr fun i g1 g2=> ?_,fun i j g1 g2 g3 g4=> ?_⟩
 · rw [show k+1-1=k by omega,ek];exact up' i (by omega) g2
 ·
  by_cases hh:i<m∨n≤j
  · exact h'.out i j g1 g2 g3 hh
  ·
   rcases Nat.lt_trichotomy i k with hik|hik|hik
   ·
    rcases Nat.lt_trichotomy j k with hjk|hjk|hjk
    · exact mj i j (by omega) g2 hjk
    · subst hjk;rw [ek];exact hw.asym (lo' i (by omega) hik)
    · exact hw.ntrans _ _ _ (up' j hjk (by omega)) (hw.asym (lo' i (by omega) hik))
   · subst hik;rw [ek];exact up' j g2 (by omega)
   · omega
theorem PS.right (hw:SWO lt) {k:Nat} (h:PS lt a0 b0 m n l s) (hs:b0≤l.size) (hp:WA lt m n k s) (hq:PermIn (k+1) n s s') (mj:SortedIn lt (k+1) n s'):PS lt a0 b0 m k l s':=by
 obtain ⟨h1,h2,lo,up⟩:=hp
 have hsz:s.size=l.size:=h.hp.1
 have X_:n≤s.size:=by have:=h.hb;omega
 have QS:PermIn m n s s':=permIn_mono _ _ _ _ _ _ (by omega) (Nat.le_refl _) X_ hq
 have h':=h.perm hs QS
 have ek:s'[k]! =s[k]! :=hq.2.1 k (.inl (by omega))
 have lo':∀i,m≤i→i<k→lt s'[i]! s[k]! =true:=fun i g1 g2=>by rw [hq.2.1 i (.inl (by omega))];exact lo i g1 g2
 have up':∀i,k<i→i<n→lt s'[i]! s[k]! =false:=fun i g1 g2=>permIn_all s s' (k+1) n (fun x=>lt x s[k]! =false) X_ hq (fun i q1 q2=>up i (by omega) q2) i (by omega) g2
 refine ⟨h.ha,h1,by have:=h.hb;omega,h'.hp,?_,fun i j g1 g2 g3 g4=> ?_⟩
 ·
  rcases h'.below with hb|hb
  · exact .inl hb
  · exact .inr fun i q1 q2=>hb i q1 (by omega)
 ·
  by_cases hh:i<m∨n≤j
  · exact h'.out i j g1 g2 g3 hh
  ·
   rcases Nat.lt_trichotomy i k with hik|hik|hik
   ·
    rcases Nat.lt_trichotomy j k with hjk|hjk|hjk
    · omega
    · subst hjk;rw [ek];exact hw.asym (lo' i (by omega) hik)
    · exact hw.ntrans _ _ _ (up' j hjk (by omega)) (hw.asym (lo' i (by omega) hik))
   · subst hik;rw [ek];exact up' j g2 (by omega)
   · exact mj i j (by omega) g2 (by omega)
end
section
variable {β:Type} [Inhabited β] {c:β×β→Int} {st:List β}
def Adj (c:β×β→Int) (a b:Int) (l:List β):Prop:=∀k,a.toNat<k→k<b.toNat→gJ c l.toArray[k]! l.toArray[k-1]! =false
theorem Adj.go {a i k:Int} (h:Adj c a i st) (h0:0≤a) (ha:a<i) (hk:k=i-1) (hi:i.toNat<st.length) (hk':k.toNat<st.length) (hc:0≤c (st[i.toNat]'hi,st[k.toNat]'hk')):Adj c a (i+1) st:=fun m h1 h2=>by
 rcases Nat.lt_or_ge m i.toNat with hm|hm
 · exact h m h1 hm
 ·
  have e:m=i.toNat:=by omega
  subst e
  rw [show i.toNat-1=k.toNat by omega,gx hi,gx hk'];exact jm (by omega)
end
section
variable {β:Type} [Inhabited β]
def Hr (a b:Int) (l st:List β):Prop:=PermIn a.toNat b.toNat l.toArray st.toArray
def bZ (c:β×β→Int) (a b:Int) (l st:List β):Prop:=PermIn a.toNat b.toNat l.toArray st.toArray∧SortedIn (gJ c) a.toNat b.toNat st.toArray
theorem Hr.len {a b:Int} {l st:List β} (h:Hr a b l st):st.length=l.length:=by have:=h.1;simpa using this
theorem bZ.len {c:β×β→Int} {a b:Int} {l st:List β} (h:bZ c a b l st):st.length=l.length:=by have:=h.1.1;simpa using this
def bf (c:β×β→Int) (hi first lo:Int) (l st:List β):Prop:=st.length=l.length∧st.toArray=siftDown (gJ c) hi.toNat first.toNat lo.toNat l.toArray
theorem bf.len {c:β×β→Int} {hi first lo:Int} {l st:List β} (h:bf c hi first lo l st):st.length=l.length:=h.1
abbrev PE (c:β×β→Int) (a b pv:Int) (l:List β):Nat×Array β:=partitionEqual (gJ c) l.toArray a.toNat b.toNat pv.toNat
abbrev PA (c:β×β→Int) (a b pv:Int) (l:List β):Nat×Bool×Array β:=partition (gJ c) l.toArray a.toNat b.toNat pv.toNat
def bg (c:β×β→Int) (a b pv:Int) (l st:List β):Prop:=st.length=l.length∧st.toArray=(PE c a b pv l).2
def bh (c:β×β→Int) (a b pv:Int) (l st:List β):Prop:=st.length=l.length∧st.toArray=(PA c a b pv l).2.2
theorem bg.len {c:β×β→Int} {a b pv:Int} {l st:List β} (h:bg c a b pv l st):st.length=l.length:=h.1
theorem bh.len {c:β×β→Int} {a b pv:Int} {l st:List β} (h:bh c a b pv l st):st.length=l.length:=h.1
theorem Hr.refl (a b:Int) (l:List β):Hr a b l l:=permIn_refl _ _ _
theorem Hr.swap {a b i j:Int} {l st:List β} (h:Hr a b l st) (hi:i.toNat<st.length) (hj:j.toNat<st.length) (h1:a.toNat≤i.toNat) (h2:i.toNat<b.toNat) (h3:a.toNat≤j.toNat) (h4:j.toNat<b.toNat) (hb:b.toNat≤l.length):
  Hr a b l ((st.set i.toNat (st[j.toNat]'hj)).set j.toNat (st[i.toNat]'hi)):=by
 unfold Hr
 rw [sw hi hj]
 exact permIn_trans _ _ _ _ _ h (swp_permIn _ _ _ _ _ h1 h2 h3 h4 (by have:=h.len;simp;omega))
theorem Hr.trans {a b:Int} {l m st:List β} (h:Hr a b l m) (k:Hr a b m st):Hr a b l st:=permIn_trans _ _ _ _ _ h k
end
section
open Go
variable {P:Program} {L:Lg P} {n:Fm} {fz:Nat} {E:Env} {M0:Av} {w0:World} {S:Nat→Prop} {rs:List BO} {new:Bool} {b:Nat} {T:TypeId} {ps:List Pr}
theorem St.dh (j:Nat) (qs:List Pr) (hj:rs[j]? =some (AE new b T ps)) (hl:LS ps qs) {a:Act} {w:World} (h:St n E (Hp M0 w0 S rs) a w):St n E (Hp M0 w0 S (rs.set j (AE new b T qs))) a w:=by
 obtain ⟨M,h1,h2,h3,h4⟩:=h
 have h4:BU M0 w0 S rs M w:=h4
 obtain ⟨hM,cs,hb,hc,ho⟩:=(h4.hold _ (List.mem_of_getElem? hj)).1
 exact ⟨M,h1,h2,h3,h4.Db hj rfl rfl ⟨hM,cs,hb,hl.hl hc,ho⟩⟩
theorem Tr.dh {Q:Exit→Act→World→Prop} {c:Code} (j:Nat) (qs:List Pr) (hj:rs[j]? =some (AE new b T ps)) (hl:LS ps qs) (k:Tr L n E (Hp M0 w0 S (rs.set j (AE new b T qs))) c Q):Tr L n E (Hp M0 w0 S rs) c Q:=Tr.conv (fun _ _ hs=>hs.dh j qs hj hl) k
end
end Cp
namespace Cp
open Go Go.RowKit Go.Great
section
variable {P:Program} {L:Lg P} {n:Fm} {fz:Nat} {E:Env} {I:Ca} {Q:Exit→Act→World→Prop}
theorem Tr.ZI {α0:Type} (K:Env) (hK:Cv E K) (F:α0→Env) (Ii:α0→Ca) (C:α0→Prop) {x y:Code} (h:Tr L n E I x (Exit.then (fun a w=>∃x0,C x0∧St n (F x0++K) (Ii x0) a w) Q))
  (k:∀x0,C x0→Tr L n (F x0++K) (Ii x0) y Q):Tr L n E I (.seq x y) Q:=
 Tr.cut (fun y:α0=>F y++K) (fun y=>Ii y) (fun y=>C y) (Tr.post h fun e a w h=>by cases e<;>first|exact h|(obtain ⟨x0,h1,h2⟩:=h;exact ⟨x0,h1,h2⟩)) fun y hy=>k y hy
theorem Tr.L3 {α0 α1:Type} (K:Env) (hK:Cv E K) (F:α0→α1→Value→Env) (Ii:α0→α1→Value→Ca) (C:α0→α1→Prop) {x y:Code} (h:Tr L n E I x (Exit.then (fun a w=>∃x0 x1 v0,C x0 x1∧St n (F x0 x1 v0++K) (Ii x0 x1 v0) a w) Q))
  (k:∀x0 x1 v0,C x0 x1→Tr L n (F x0 x1 v0++K) (Ii x0 x1 v0) y Q):Tr L n E I (.seq x y) Q:=
 Tr.cut (fun y:α0×α1×Value=>F y.1 y.2.1 y.2.2++K) (fun y=>Ii y.1 y.2.1 y.2.2) (fun y=>C y.1 y.2.1) (Tr.post h fun e a w h=>by cases e<;>first|exact h|(obtain ⟨x0,x1,v0,h1,h2⟩:=h;exact ⟨(x0,x1,v0),h1,h2⟩)) fun y hy=>k y.1 y.2.1 y.2.2 hy
end
section
variable {P:Program} {L:Lg P} {n:Fm} {fz:Nat} {E:Env} {M0:Av} {w0:World} {S:Nat→Prop} {rs:List BO} {β:Type} {e:TypeId} {sz:Nat} {f:β→List Pr} {Φ:List β→Prop} {v:Value}
theorem St.ZJ {rows:List (List Pr)} (j d:Nat) {p:Pr} (hj:rs[j]? =some (B0 e sz rows v)) (hd:E.lookup d=some (As v p)) (hf:∀r∈rows,r.length=sz) {a:Act} {w:World} (hs:St n E (Hp M0 w0 S rs) a w):
  St n ((d,As v (slice sz rows))::E) (Hp M0 w0 S (rs.set j (BJ e sz v))) a w:=by
 obtain ⟨M,h1,h2,h3,h4⟩:=hs
 have h4:BU M0 w0 S rs M w:=h4
 obtain ⟨M',h6,h7,h8⟩:=BU.ji h4 hj hf
 refine ⟨M',h1,h2,fun s q hq=> ?_,h7⟩
 simp only [List.lookup] at hq
 split at hq
 ·
  rename_i e1
  have:s=d:=by simpa using e1
  subst this
  simp only [Option.some.injEq] at hq
  subst hq
  have h9:=(h3 _ _ hd).1
  exact ⟨h9,by rw [h9];exact h8⟩
 · exact q.st _ _ _ _ _ h6 (h3 s q hq)
theorem Tr.ZJ {Q:Exit→Act→World→Prop} {c:Code} {rows:List (List Pr)} (j d:Nat) {p:Pr} (hj:rs[j]? =some (B0 e sz rows v)) (hd:E.lookup d=some (As v p)) (hf:∀r∈rows,r.length=sz)
  (k:Tr L n ((d,As v (slice sz rows))::E) (Hp M0 w0 S (rs.set j (BJ e sz v))) c Q):Tr L n E (Hp M0 w0 S rs) c Q:=
 fun a w hs=>k a w (hs.ZJ j d hj hd hf)
theorem NG {rows:List (List Pr)} (h:rows=[]):Pr.le (is (.slice none 0 0)) (As (.slice none 0 0) (lens rows.length)):=by
 subst h;exact fun _ _ _ hv=>⟨hv,⟨none,0,by rw [hv];rfl⟩⟩
theorem DD {v:Value} {a b:Nat} (h:a=b):Pr.le (As v (lens a)) (As v (lens b)):=by subst h;exact Pr.le_refl _
end
section
variable {P:Program} {L:Lg P} {n:Fm} {fz:Nat} {E:Env} {M0:Av} {w0:World} {S:Nat→Prop} {rs:List BO} {o:Oper}
end
section
variable {P:Program} {L:Lg P} {n:Fm} {fz:Nat} {E:Env} {M0:Av} {w0:World} {S:Nat→Prop} {rs:List BO} {ε:Type} {res:ε→List BO}
def gK (res:ε→List BO) (es:List ε):List BO:=es.flatMap res
theorem WB:∀{es:List ε} {k:Nat} {x:ε},es[k]? =some x→(gK res es).Perm (res x++gK res (es.eraseIdx k))
 |[],_,_,h=>by simp at h
 |a::es,0,x,h=>by
  simp only [List.getElem?_cons_zero,Option.some.injEq] at h
  subst h
  exact List.Perm.refl _
 |a::es,k+1,x,h=>by
  have ih:=WB (es:=es) (k:=k) (x:=x) (by simpa using h)
  show (res a++gK res es).Perm (res x++(res a++gK res (es.eraseIdx k)))
  refine (ih.append_left (res a)).trans ?_
  rw [←List.append_assoc,←List.append_assoc]
  exact List.perm_append_comm.append_right _
theorem R_ {a b c:List BO} (h:b.Perm c):(a++b).Perm (a++c):=h.append_left a
theorem St.perm {rs':List BO} (hp:rs.Perm rs') {a:Act} {w:World} (h:St n E (Hp M0 w0 S rs) a w):St n E (Hp M0 w0 S rs') a w:=by
 obtain ⟨M,h1,h2,h3,h4⟩:=h
 exact ⟨M,h1,h2,h3,BU.perm hp h4⟩
theorem Tr.focus {Q:Exit→Act→World→Prop} {c:Code} (bl:List BO) {es:List ε} {k:Nat} {x:ε} (hx:es[k]? =some x) (hrs:rs=bl++gK res es) (kk:Tr L n E (Hp M0 w0 S (res x++(bl++gK res (es.eraseIdx k)))) c Q):Tr L n E (Hp M0 w0 S rs) c Q:=
 Tr.conv (fun _ _ hs=>hs.perm (by
  subst hrs
  refine (R_ (WB hx)).trans ?_
  rw [←List.append_assoc,←List.append_assoc]
  exact List.perm_append_comm.append_right _)) kk
theorem Tr.jo {Q:Exit→Act→World→Prop} {c:Code} {e:TypeId} {sz:Nat} {rows:List (List Pr)} {v:Value} (j:Nat) (hj:rs[j]? =some (B0 e sz rows v)) (hne:rows≠[])
  (k:∀(b cap:Nat) (sp:List Value),v= .slice (some ⟨b,0,none⟩) rows.length cap→rows.length≤cap→cap≤maxLen→sp.length=(cap-rows.length)*sz→Tr L n E (Hp M0 w0 S (rs.set j (AE true b e (rows.flatten++sp.map is)))) c Q):Tr L n E (Hp M0 w0 S rs) c Q:=by
 intro a w hs
 obtain ⟨M,h1,h2,h3,h4⟩:=hs
 have h4:BU M0 w0 S rs M w:=h4
 rcases (h4.hold _ (List.mem_of_getElem? hj)).1 with ⟨h5,_⟩|⟨b,cap,sp,rfl,h5,h6,h7,h8⟩
 · exact absurd h5 hne
 · exact k b cap sp rfl h5 h6 h7 a w ⟨M,h1,h2,h3,h4.Db hj rfl rfl h8⟩
theorem St.Jb {e:TypeId} {sz b cap m:Nat} {rows:List (List Pr)} {sp:List Value} (j:Nat) (hj:rs[j]? =some (AE true b e (rows.flatten++sp.map is))) (hm:rows.length=m) (h1:m≤cap) (h2:cap≤maxLen) (h3:sp.length=(cap-m)*sz) {a:Act} {w:World} (h:St n E (Hp M0 w0 S rs) a w):St n E (Hp M0 w0 S (rs.set j (B0 e sz rows (.slice (some ⟨b,0,none⟩) m cap)))) a w:=by
 subst hm
 obtain ⟨M,g1,g2,g3,g4⟩:=h
 have g4:BU M0 w0 S rs M w:=g4
 exact ⟨M,g1,g2,g3,g4.Db hj rfl rfl (.inr ⟨b,cap,sp,rfl,h1,h2,h3,(g4.hold _ (List.mem_of_getElem? hj)).1⟩)⟩
theorem Fin.Jb {Q:Exit→Act→World→Prop} {x:Exit} {e:TypeId} {sz b cap m:Nat} {rows:List (List Pr)} {sp:List Value} (j:Nat) (hj:rs[j]? =some (AE true b e (rows.flatten++sp.map is))) (hm:rows.length=m) (h1:m≤cap) (h2:cap≤maxLen) (h3:sp.length=(cap-m)*sz)
  (k:Fin n E (Hp M0 w0 S (rs.set j (B0 e sz rows (.slice (some ⟨b,0,none⟩) m cap)))) Q x):Fin n E (Hp M0 w0 S rs) Q x:=Fin.conv (fun _ _ hs=>hs.Jb j hj hm h1 h2 h3) k
end
section
variable {P:Program} {L:Lg P} {n:Fm} {fz:Nat} {E:Env} {M0:Av} {w0:World} {S:Nat→Prop} {rs:List BO} {o:Oper}
theorem JI {w:World} {dT sT ty e:TypeId} {g off dLen dCap sLen sCap sz m:Nat} {a:Addr} {cur:Array Value} {t:TypeId} {cs:List Value} (hu:P.underlying dT=some (.slice e)) (hz:Ap P e=some sz)
  (hg:w.heap[g]? =some (.cells cur t (0,0))) (hm:m=Nat.min sLen dLen) (hn:cs.length=m*sz) (hsrc:∀j v,cs[j]? =some v→w.cell? (a.add j)=some v) (hfit:off+cs.length≤cur.size) (h1:∀v∈cs,v.oneCell'=true):
  (Builtin.copy_ #[dT,sT] ty #[.slice (some ⟨g,off,none⟩) dLen dCap,.slice (some a) sLen sCap]).run P w= .ok (goInt m) (w.setRow g (cur.toList.take off++cs++cur.toList.drop (off+cs.length)).toArray):=by
 have hl:=run_loadCells_list (P:=P) w a cs hsrc
 have hst:=run_storeCells_at P g off t cs 0 cur w hg (by simpa using hfit) h1
 unfold Ap at hz
 cases hq:P.info? e with
 |none=>rw [hq] at hz;cases hz
 |some i=>
  have hi:i.size=sz:=by simpa [hq] using hz
  rw [hn] at hl
  simp [Builtin.copy_,run_underlying hu,Builtin.lenOf,Builtin.firstCells,Go.sizeOf,typeInfo,hq,hi,←hm,hl,hst]
theorem G9 {dT sT e:TypeId} {x y:Operand} {j:Nat} {new:Bool} {b off m cap sz d:Nat} {T:TypeId} {ps ps':List Pr} {rows:List (List Pr)} (hg:o.guard=none) (hd:o.dst=some d) (ho:o.op= .call { callee:= .builtin .copy,args:= #[x,y],argTypes:= #[dT,sT] })
  (ht:P.underlying dT=some (.slice e)) (hz:Ap P e=some sz) (hsz:0<sz) (hx:VL E x (is (.slice (some ⟨b,off,none⟩) m cap))) (hy:VL E y (slice sz rows)) (hpos:0<rows.length) (hm:rows.length≤m) (hl:off+rows.length*sz≤ps.length)
  (hps:ps.take off++rows.flatten++ps.drop (off+rows.length*sz)=ps'):DU P M0 w0 S n j (SR.c (AE new b T ps)) (SR.c (AE new b T ps')) o E (int (rows.length:Nat)):=by
 refine ⟨hg,fun M w a rs H7 he hI hj=> ?_⟩
 have h1:a.eval x=_:=hx.ev he (by simp [ho,Op.operands,Call.operands])
 have h2:=hy.ev he (by simp [ho,Op.operands,Call.operands])
 obtain ⟨⟨_,cs,h4,h5,h6⟩,_⟩:=hI.hold _ (List.mem_of_getElem? hj)
 have X9:=h5.length
 have h2':=h2
 obtain ⟨A',c',hv,Vm,Mq,UT,D0⟩:=h2
 obtain ⟨JA,rfl⟩:∃JA,A'=some JA:=by
  obtain ⟨_,b,hb,_⟩:=D0 0 _ (List.getElem?_eq_getElem hpos)
  exact ⟨b,hb⟩
 rw [hv] at h2'
 obtain ⟨news,hfl,hcell⟩:=Dq hsz h2'
 have NC:=hfl.1
 have hrun:=JI (P:=P) (w:=w) (sT:=sT) (ty:=o.type) (g:=b) (off:=off) (dLen:=m) (dCap:=cap) (sLen:=rows.length) (sCap:=c') (m:=rows.length) (a:=JA) (cur:=cs.toArray) (t:=T) (cs:=news) ht hz h4 (Nat.min_eq_left hm).symm NC (fun k u hk=>(hcell k u hk).1) (by simp [NC];omega) hfl.2.1
 have Cz:(execOp a.eval o).run P w= .ok (.value (goInt rows.length)) (w.setRow b (cs.take off++news++cs.drop (off+news.length)).toArray):=by
  simp [execOp,ho,h1,hv,resolve,invoke,builtin,hrun]
 rw [Cz]
 obtain ⟨h7, h8⟩ := BU.write (qs := ps') (cs := cs.take off ++ news ++ cs.drop (off + news.length)) hI hj (by rw [← hps, NC]; exact ((h5.take off).app (hfl.hl hsz)).app (h5.drop _))
  (fun c hc=>by
   simp only [List.mem_append] at hc
   rcases hc with (hc|hc)|hc
   · exact h6 c (List.mem_of_mem_take hc)
   · exact hfl.2.1 c hc
   · exact h6 c (List.mem_of_mem_drop hc))
 exact ⟨M,rfl,h8,h7⟩
theorem Qo {dT sT e:TypeId} {x y:Operand} {j:Nat} {new:Bool} {b off off2 m dl cap Lf sz d:Nat} {T:TypeId} {ps ps':List Pr} (hg:o.guard=none) (hd:o.dst=some d) (ho:o.op= .call { callee:= .builtin .copy,args:= #[x,y],argTypes:= #[dT,sT] })
  (ht:P.underlying dT=some (.slice e)) (hz:Ap P e=some sz) (hx:VL E x (is (.slice (some ⟨b,off,none⟩) dl cap))) {sl:Nat} (hy:VL E y (is (.slice (some ⟨b,off2,none⟩) sl Lf))) (hm:m=Nat.min sl dl) (hl:off+m*sz≤ps.length) (bn:off2+m*sz≤ps.length)
  (hps:ps.take off++(ps.drop off2).take (m*sz)++ps.drop (off+m*sz)=ps'):DU P M0 w0 S n j (SR.c (AE new b T ps)) (SR.c (AE new b T ps')) o E (int (m:Nat)):=by
 refine ⟨hg,fun M w a rs H7 he hI hj=> ?_⟩
 have h1:a.eval x=_:=hx.ev he (by simp [ho,Op.operands,Call.operands])
 have h2:a.eval y=_:=hy.ev he (by simp [ho,Op.operands,Call.operands])
 obtain ⟨⟨_,cs,h4,h5,h6⟩,_⟩:=hI.hold _ (List.mem_of_getElem? hj)
 have X9:=h5.length
 have NC:((cs.drop off2).take (m*sz)).length=m*sz:=by rw [List.length_take,List.length_drop];omega
 have hrun:=JI (P:=P) (w:=w) (sT:=sT) (ty:=o.type) (g:=b) (off:=off) (dLen:=dl) (dCap:=cap) (sLen:=sl) (sCap:=Lf) (m:=m) (a:=⟨b,off2,none⟩) (cur:=cs.toArray) (t:=T) (cs:=(cs.drop off2).take (m*sz)) ht hz h4 hm NC (fun k u hk=>by
   rw [Co]
   rw [List.getElem?_take] at hk
   split at hk
   · rw [List.getElem?_drop] at hk;simp [World.cell?,h4,hk]
   · cases hk) (by simp [NC];omega) (fun v hv=>h6 v (List.mem_of_mem_drop (List.mem_of_mem_take hv)))
 have Cz:(execOp a.eval o).run P w= .ok (.value (goInt m)) (w.setRow b (cs.take off++(cs.drop off2).take (m*sz)++cs.drop (off+((cs.drop off2).take (m*sz)).length)).toArray):=by
  simp [execOp,ho,h1,h2,resolve,invoke,builtin,hrun]
 rw [Cz]
 obtain ⟨h7, h8⟩ := BU.write (qs := ps') (cs := cs.take off ++ (cs.drop off2).take (m * sz) ++ cs.drop (off + ((cs.drop off2).take (m * sz)).length)) hI hj (by rw [← hps, NC]; exact ((h5.take off).app ((h5.drop off2).take _)).app (h5.drop _))
  (fun c hc=>by
   simp only [List.mem_append] at hc
   rcases hc with (hc|hc)|hc
   · exact h6 c (List.mem_of_mem_take hc)
   · exact h6 c (List.mem_of_mem_drop (List.mem_of_mem_take hc))
   · exact h6 c (List.mem_of_mem_drop hc))
 exact ⟨M,rfl,h8,h7⟩
theorem Kv {w:World} {tS tR e:TypeId} (ht:P.underlying tS=some (.slice e)) {size:Nat} (hz:∀w,(Go.sizeOf e).run P w= .ok size w) {a b:Addr} {la ca lb cb:Nat} (hne:a.block≠b.block) {tA tB:TypeId} {kA kB:Nat}
  (hsa:w.shape? a.block=some (tA,kA+1)) (hsb:w.shape? b.block=some (tB,kB+1)) (mm:∀c:Addr,c.block=b.block→w.frozen? c=false):
  (Extern.SlicesOverlaps.overlaps #[tS,tS] #[tR] #[.slice (some a) la ca,.slice (some b) lb cb]).run P w= .ok (.bool false) w:=by
 have hnb:(a.block !=b.block)=true:=by simpa using hne
 have pF:(a.block==b.block)=false:=by simpa using hne
 have hf1:=mm b rfl
 have N1:=mm { block:=b.block,off:=kB+1 } rfl
 change Sem.run P (α := Value) (do
  let some t := (#[tS, tS] : Array TypeId)[0]? | stuck "slices.overlaps: no parameter types"
  let .slice elem ← underlying t | stuck "slices.overlaps: slice type expected"
  let size ←sizeOf elem
  match (some a:Option Addr),(some b:Option Addr) with
  |some a,some b=>
   if la=0∨lb=0∨size=0 then pure (Value.bool false)
   else if a.block !=b.block&&(←frozen a)&&(←frozen b) then unsupported .addressObserved
   else do
    if a.block != b.block then do
     noView a;noView b
     if ← mayBeOne a b then return Value.bool ((← choose (.extern "sameAddr.stringBytes" 2)) == 1)
    pure (Value.bool (a.block==b.block&&a.off<b.off+lb*size&&b.off<a.off+la*size))
  |_,_=>pure (Value.bool false)) w=_
 by_cases h0:la=0∨lb=0∨size=0
 · simp [run_underlying ht,hz,h0]
 ·
  cases hfa:w.frozen? a<;>cases pG:w.frozen? { block:=a.block,off:=kA+1 }<;>
   simp [run_underlying ht,hz,h0,hnb,pF,frozen,noView,viewAt,mayBeOne,stringish,shape,Sem.run,hsa,hsb,hfa,pG,hf1,N1]
theorem SA {w:World} {a:Addr} {v:Value} (h:w.cell? a=some v):∃t k,w.shape? a.block=some (t,k+1):=by
 unfold World.cell? at h
 unfold World.shape?
 split at h
 ·
  rename_i c t mk hh
  have hc:c[a.off]? =some v:=by
   split at h
   · cases h
   · exact h
  have:a.off<c.size:=by
   rcases Nat.lt_or_ge a.off c.size with h'|h'
   · exact h'
   · rw [Array.getElem?_eq_none h'] at hc;cases hc
  exact ⟨t,c.size-1,by show some (t,c.size)=_;congr 2;omega⟩
 · cases h
theorem LX {f : FuncId} {fn : Func} {x y : Operand} {ts : Array TypeId} {tS tR e : TypeId} {rows : List (List Pr)} {j : Nat} {new : Bool} {b off m cap sz : Nat} {T : TypeId} {ps : List Pr} (ho : o.op = .call { callee := .value (.func f), args := #[x, y], argTypes := ts }) (hf : P.funcs[f]? = some fn) (hname : (fn.name == "runtime.NumGoroutine") = false)
  (hb:fn.body.isNone=true) (hn:Extern.findNext fn=none) (hex:Extern.find fn=some (Extern.SlicesOverlaps.overlaps #[tS,tS] #[tR])) (ht:P.underlying tS=some (.slice e)) (hz:Ap P e=some sz) (hsz:0<sz) (hx:VL E x (slice sz rows)) (hpos:0<rows.length) (hy:VL E y (is (.slice (some ⟨b,off,none⟩) m cap))) (hps:0<ps.length):
  Hy P M0 w0 S j (SR.c (AE new b T ps)) o E (bool false):=by
 intro M w a rs he hI hj
 have h1:=hx.ev he (by simp [ho,Op.operands,Call.operands])
 have h2:a.eval y=_:=hy.ev he (by simp [ho,Op.operands,Call.operands])
 obtain ⟨⟨hM,cs,h4,h5,h6⟩,_⟩:=hI.hold _ (List.mem_of_getElem? hj)
 have X9:=h5.length
 obtain ⟨A',c',hv,Vm,Mq,UT,D0⟩:=h1
 obtain ⟨hlen,JA,rfl,hrow⟩:=D0 0 _ (List.getElem?_eq_getElem hpos)
 obtain ⟨p0,iq⟩:∃p0,rows[0][0]? =some p0:=⟨_,List.getElem?_eq_getElem (by rw [hlen];exact hsz)⟩
 obtain ⟨u,hu,hnm,_⟩:=hrow 0 p0 iq
 obtain ⟨tA,kA,hsa⟩:=SA hu
 rw [Da] at hsa
 have hne:JA.block≠b:=fun e1=>hnm (by rw [e1];exact hM _)
 have hsb:w.shape? b=some (T,(cs.length-1)+1):=by unfold World.shape?;rw [h4];show some (T,cs.toArray.size)=_;congr 2;simp;omega
 have mm:∀c:Addr,c.block=b→w.frozen? c=false:=fun c hc=>by unfold World.frozen?;rw [hc,h4];simp
 have hzr:∀w,(Go.sizeOf e).run P w= .ok sz w:=fun w=>Bb hz w
 have hov:=Kv (P:=P) (w:=w) (tR:=tR) ht hzr (a:=JA) (b:=⟨b,off,none⟩) (la:=rows.length) (ca:=c') (lb:=m) (cb:=cap) hne hsa hsb mm
 have h3:a.eval (.func f)= .func (.func f) #[] #[]:=rfl
 have hrun:(execOp a.eval o).run P w=(callFunc f #[a.eval x,a.eval y]).run P w:=by simp [execOp,ho,resolve,Deferred.ofValue,invoke,h3]
 rw [hrun,hv,h2,run_callFunc_extern hf hname hb hn hex,hov]
 exact ⟨rfl,Below.refl _ _⟩
def ZK (e:TypeId) (sz m:Nat) (ps:List Pr) (v:Value):BO where
 IB:=match v with| .slice (some a) _ _=>some a.block|_=>none
 new:=true
 h M w:=∃(b cap:Nat) (sp:List Value),v= .slice (some ⟨b,0,none⟩) m cap∧m≤cap∧cap≤maxLen∧ps.length+sp.length=cap*sz∧(AE true b e (ps++sp.map is)).h M w
 st M w M' w' he hk h:=by
  obtain ⟨b,cap,sp,rfl,h1,h2,h3,h4⟩:=h
  exact ⟨b,cap,sp,rfl,h1,h2,h3,(AE true b e (ps++sp.map is)).st M w M' w' he hk h4⟩
theorem UX {M:Av} {w:World} {t tn ty e:TypeId} {sz bytes:Nat} {zs:List Value} {i k cap b:Nat} {j j2:Nat} {kn:IntKind} {T:TypeId} {ps:List Pr} (ht:P.underlying t=some (.slice e)) (htn:P.underlying tn=some (.int kn)) (hz:Ap P e=some sz) (hby:CI P e=some bytes) (C6:Bh P e=some zs) (hzl:zs.length=sz) (hone:zs.all (·.oneCell')=true) (hsz:0<sz)
  (h:BU M0 w0 S rs M w) (hj:rs[j]? =some Bm) (hj2:rs[j2]? =some (AE true b T ps)) (EO:i*sz≤ps.length) (hk:0<k) (hg:cap<i+k) (EB:i+k≤maxLen) (hfit:(i+k)*bytes≤140737488355328):
  ∃v' w' M',(Builtin.append_ #[t,tn] ty #[.slice (some ⟨b,0,none⟩) i cap,.int .i64 (k:Nat)]).run P w= .ok v' w'∧(lens (i+k)).h M' w' v'∧Ext M w M' w'∧BU M0 w0 S (rs.set j (ZK e sz (i+k) (ps.take (i*sz)) v')) M' w':=by
 obtain ⟨⟨_,cs0,g4,g5,g6⟩,_⟩:=h.hold _ (List.mem_of_getElem? hj2)
 have g5l:=g5.length
 unfold Ap at hz
 unfold CI at hby
 unfold Bh at C6
 cases hi:P.info? e with
 |none=>rw [hi] at hz;cases hz
 |some ii=>
  rw [hi] at hz hby C6
  simp only [Option.map_some,Option.some.injEq,Option.map_eq_some_iff] at hz hby C6
  obtain ⟨z,OG,C6⟩:=C6
  have Rl:z.cells.size=sz:=by rw [←hzl,←C6];simp
  have hol:(cs0.take (i*sz)).length=i*sz:=by rw [List.length_take];omega
  have hold:(Builtin.firstCells ii.size i (.slice (some ⟨b,0,none⟩) i cap)).run P w.drew= .ok (cs0.take (i*sz)).toArray w.drew:=by
   have:=run_loadCells_list (P:=P) w.drew ⟨b,0,none⟩ (cs0.take (i*sz)) (fun q u hq=>by
    rw [Co]
    rw [List.getElem?_take] at hq
    split at hq
    ·
     have hh:w.drew.heap[b]? =some (.cells cs0.toArray T (0,0)):=g4
     simp [World.cell?,hh,hq]
    · cases hq)
   rw [hol] at this
   simp only [Builtin.firstCells,hz]
   rw [Nat.mul_comm] at this ⊢
   first|exact this|(simp;exact this)
  have hrun:=Lib.run_append_grow_zeros (P:=P) w t tn ty e ii z .i64 kn ht htn hi OG (some ⟨b,0,none⟩) i cap (cs0.take (i*sz)) hold k hk (by rw [hz];exact hsz) hg (by unfold maxLen at EB;omega) (by rw [hby];have:=Nat.mul_le_mul_right bytes (show k≤i+k by omega);omega) (by rw [hby];exact growslice_fits hg hfit)
  generalize hcap:grownCap w (i+k) cap e=cap' at hrun
  have hge:i+k≤cap':=by rw [←hcap];exact grownCap_ge _ _ _ _
  have hle:cap'≤maxLen:=by rw [←hcap];exact grownCap_le_maxLen _ _ _ _ EB
  generalize jq:Builtin.zeroCells z.cells k=z1 at hrun
  generalize jr:Builtin.zeroCells z.cells (cap'-(i+k))=z2 at hrun
  have Hx:z1.size=k*sz:=by rw [←jq,size_zeroCells,Rl]
  have YL:z2.size=(cap'-(i+k))*sz:=by rw [←jr,size_zeroCells,Rl]
  have mY:∀c∈z1.toList,c.oneCell'=true:=by rw [←jq];exact Dw C6 hone
  have ho2:∀c∈z2.toList,c.oneCell'=true:=by rw [←jr];exact Dw C6 hone
  generalize hcs:((cs0.take (i*sz)).toArray++z1++z2)=cs at hrun
  have jt:cs.toList=cs0.take (i*sz)++(z1.toList++z2.toList):=by rw [←hcs];simp
  have Qn:∀c∈cs.toList,c.oneCell'=true:=by
   intro c hc
   rw [jt] at hc
   simp only [List.mem_append] at hc
   rcases hc with hc|hc|hc
   · exact g6 c (List.mem_of_mem_take hc)
   · exact mY c hc
   · exact ho2 c hc
  have hb:Below w.heap.size w (w.drew.alloc (.cells cs e)):=((Below.refl _ _).drew).alloc (Nat.le_refl _) _
  have h2:=Ext.below (M:=M) hb
  have DV:Ext M w (fun b o=>M b o∨b=w.heap.size) (w.drew.alloc (.cells cs e)):=by
   refine ⟨h2.size,fun a v hc hm=>⟨fun hx=> ?_,(h2.keep a v hc hm).2⟩,fun b o ho hp hm=>⟨fun hx=> ?_,(h2.obj b o ho hp hm).2⟩⟩
   ·
    rcases hx with hx|hx
    · exact hm hx
    · have:=D3 hc;omega
   ·
    rcases hx with hx|hx
    · exact hm hx
    · subst hx;simp at ho
  have hs1:(w.drew.alloc (.cells cs e)).heap.size=w.heap.size+1:=by simp
  refine ⟨_,_,fun b o=>M b o∨b=w.heap.size,hrun,⟨_,_,rfl⟩,DV,?_⟩
  refine h.replace hj DV hb.os hb.tape hb.output (fun k hk _=>hb.block k hk) rfl (fun b o hm _=> .inl hm) (fun b o hx=> ?_) ?_ rfl (fun b hbk=> ?_)
  ·
   rcases hx with hx|hx
   · have:=h.bd _ _ hx;omega
   · omega
  ·
   refine ⟨w.heap.size,cap',z1.toList++z2.toList,rfl,hge,hle,?_,fun o=> .inr rfl,cs.toList,?_,?_,Qn⟩
   · rw [List.length_take,Nat.min_eq_left EO,List.length_append,Array.length_toList,Array.length_toList,Hx,YL,←Nat.add_mul,←Nat.add_mul];congr 1;omega
   ·
    have hh:(w.drew.alloc (.cells cs e)).heap[w.heap.size]? =some (.cells cs e (0,0)):=heap_alloc_new w.drew _
    rw [hh]
   · rw [jt];exact ((g5.take _).st DV).app (LM _ _ _)
  ·
   have EX:some w.heap.size=some b:=hbk
   injection EX with e1
   subst e1
   exact ⟨by rw [hs1];omega,.inr (Nat.le_refl _)⟩
theorem TO.bp {Q:Exit→Act→World→Prop} {ops:Array Oper} {r:List Oper} {t tn e:TypeId} {x y:Operand} (j j2:Nat) {sz bytes d:Nat} {zs:List Value} {i k cap b:Nat} {kk:Int} {kn:IntKind} {T:TypeId} {ps:List Pr} (hj:rs[j]? =some Bm) (hj2:rs[j2]? =some (AE true b T ps)) (hg:o.guard=none) (hd:o.dst=some d) (hn:d<n) (ho:o.op= .call { callee:= .builtin .append,args:= #[x,y],argTypes:= #[t,tn] })
  (ht:P.underlying t=some (.slice e)) (htn:P.underlying tn=some (.int kn)) (hz:Ap P e=some sz) (hby:CI P e=some bytes) (C6:Bh P e=some zs) (hzl:zs.length=sz) (hone:zs.all (·.oneCell')=true) (hsz:0<sz)
  (hx:VL E x (is (.slice (some ⟨b,0,none⟩) i cap))) (hy:VL E y (int kk)) (hkk:kk=(k:Nat)) (EO:i*sz≤ps.length) (hk:0<k) (hgr:cap<i+k) (EB:i+k≤maxLen) (hfit:(i+k)*bytes≤140737488355328)
  (kq:∀(b2 Lf:Nat) (sp:List Value),i+k≤Lf→Lf≤maxLen→(ps.take (i*sz)).length+sp.length=Lf*sz→TO P n ops r ((d,is (.slice (some ⟨b2,0,none⟩) (i+k) Lf))::E) (Hp M0 w0 S (rs.set j (AE true b2 e (ps.take (i*sz)++sp.map is)))) Q):TO P n ops (o::r) E (Hp M0 w0 S rs) Q:=
 TO.VV hg fun K M w a H7 hdf he hI hK=>by
  have hI:BU M0 w0 S rs M w:=hI
  have hef:=Cj (o:=o) he
  have h1:a.eval x=_:=hx.ev hef (by simp [ho,Op.operands,Call.operands])
  have h2:a.eval y= .int .i64 kk:=hy.ev hef (by simp [ho,Op.operands,Call.operands])
  have hjl:j<rs.length:=by rcases Nat.lt_or_ge j rs.length with h|h;exact h;rw [List.getElem?_eq_none h] at hj;cases hj
  obtain ⟨v',w',M',hrun,h3,h4,h5⟩:=UX (ty:=o.type) ht htn hz hby C6 hzl hone hsz hI hj hj2 EO hk hgr EB hfit
  have Cz:(execOp a.eval o).run P w= .ok (.value v') w':=by rw [hkk] at h2;simp [execOp,ho,resolve,invoke,builtin,h1,h2,hrun]
  obtain ⟨b2,Lf,sp,rfl,q1,q2,q3,q4⟩:=(h5.hold _ (List.mem_of_getElem? (List.getElem?_set_self hjl))).1
  have h6:BU M0 w0 S (rs.set j (AE true b2 e (ps.take (i*sz)++sp.map is))) M' w':=by
   have:=h5.Db (r':=AE true b2 e (ps.take (i*sz)++sp.map is)) (List.getElem?_set_self hjl) rfl rfl q4
   rwa [List.set_set] at this
  have hgv:O5 P M0 w0 S o a M w (is (.slice (some ⟨b2,0,none⟩) (i+k) Lf)) j (SR.c (AE true b2 e (ps.take (i*sz)++sp.map is))) rs ((execOp a.eval o).run P w):=by
   rw [Cz];exact ⟨M',rfl,h4,h6⟩
  refine Is hgv fun v w'' M'' hv hxt Nt=>hK _ _ _ _ (kq b2 Lf sp q1 q2 q3) ⟨M'',by rw [CL];exact H7,by rw [put_defers];exact hdf,?_,Nt⟩
  intro s q hq
  simp only [List.lookup] at hq
  by_cases hs:s=d
  · subst hs;simp at hq;subst hq;rw [hd,B2 (by rw [H7];exact hn)];exact hv
  · rw [show (s==d)=false by simpa using hs] at hq;rw [hd,CK hs];exact q.st _ _ _ _ _ hxt (he s q hq)
end
section
variable {P:Program} {L:Lg P} {n:Fm} {fz:Nat} {E:Env} {M0:Av} {w0:World} {S:Nat→Prop} {rs:List BO} {o:Oper}
theorem Ti {I:Ca} {t e:TypeId} {x:Operand} {A:Option Addr} {m cap:Nat} (ho:o.op= .call { callee:= .builtin .cap,args:= #[x],argTypes:= #[t] }) (ht:P.underlying t=some (.slice e)) (hx:VL E x (is (.slice A m cap))):Ad P I o E (int cap):=
 Ad.same fun M w a he _=>by
  have h1:a.eval x=_:=hx.ev he (by simp [ho,Op.operands,Call.operands])
  exact ⟨.int .i64 cap,by simp [execOp,ho,resolve,invoke,builtin,Builtin.cap_,h1,run_underlying ht,goInt],rfl⟩
theorem KA {I:Ca} {t e:TypeId} {x y:Operand} {k:IntKind} {h:Int} {sz b m cap:Nat} (ho:o.op= .slice t x none (some y) none) (ht:P.underlying t=some (.slice e)) (hz:Ap P e=some sz) (hx:VL E x (is (.slice (some ⟨b,0,none⟩) m cap))) (hy:VL E y (is (.int k h))) (h0:0≤h) (hl:h≤cap) (h1m:0<cap):
  Ad P I o E (is (.slice (some ⟨b,0,none⟩) h.toNat cap)):=
 Ad.same fun M w a he _=>by
  have h1:a.eval x=_:=hx.ev he (by simp [ho,Op.operands])
  have h3:a.eval y=_:=hy.ev he (by simp [ho,Op.operands])
  refine ⟨_,?_,rfl⟩
  simp [execOp,ho,h1,h3,Instr.sliceAt,Instr.slice,run_underlying ht,Instr.sliceBounds,Instr.sliceBound,asIntOf,h0,hl,Bb hz]
  intro _;rfl
theorem KB {I:Ca} {t e:TypeId} {x y:Operand} {k:IntKind} {l:Int} {sz b m cap:Nat} (ho:o.op= .slice t x (some y) none none) (ht:P.underlying t=some (.slice e)) (hz:Ap P e=some sz) (hx:VL E x (is (.slice (some ⟨b,0,none⟩) m cap))) (hy:VL E y (is (.int k l))) (h0:0≤l) (hl:l≤m) (hc:m≤cap):
  Ad P I o E (lens (m-l.toNat)):=
 Ad.same fun M w a he _=>by
  have h1:a.eval x=_:=hx.ev he (by simp [ho,Op.operands])
  have h3:a.eval y=_:=hy.ev he (by simp [ho,Op.operands])
  have hb:l≤(m:Int):=by omega
  refine ⟨.slice (if cap=l.toNat then some ⟨b,0,none⟩ else some ⟨b,l.toNat*sz,none⟩) (m-l.toNat) (cap-l.toNat),?_,_,_,rfl⟩
  by_cases hne:cap=l.toNat<;>
  simp [execOp,ho,h1,h3,Instr.sliceAt,Instr.slice,run_underlying ht,Instr.sliceBounds,Instr.sliceBound,asIntOf,h0,hb,Bb hz,hne,Co]
theorem Tr.Jb {Q:Exit→Act→World→Prop} {c:Code} {e:TypeId} {sz b cap m:Nat} {rows:List (List Pr)} {sp:List Value} {ps:List Pr} (j:Nat) (hj:rs[j]? =some (AE true b e ps)) (hps:ps=rows.flatten++sp.map is) (hm:rows.length=m) (h1:m≤cap) (h2:cap≤maxLen) (h3:sp.length=(cap-m)*sz)
  (k:Tr L n E (Hp M0 w0 S (rs.set j (B0 e sz rows (.slice (some ⟨b,0,none⟩) m cap)))) c Q):Tr L n E (Hp M0 w0 S rs) c Q:=Tr.conv (fun _ _ hs=>hs.Jb j (by rw [hj,hps]) hm h1 h2 h3) k
theorem Fin.Kw {Q:Exit→Act→World→Prop} {x:Exit} {e:TypeId} {sz b cap m:Nat} {rows:List (List Pr)} {sp:List Value} {ps:List Pr} (j:Nat) (hj:rs[j]? =some (AE true b e ps)) (hps:ps=rows.flatten++sp.map is) (hm:rows.length=m) (h1:m≤cap) (h2:cap≤maxLen) (h3:sp.length=(cap-m)*sz)
  (k:Fin n E (Hp M0 w0 S (rs.set j (B0 e sz rows (.slice (some ⟨b,0,none⟩) m cap)))) Q x):Fin n E (Hp M0 w0 S rs) Q x:=Fin.conv (fun _ _ hs=>hs.Jb j (by rw [hj,hps]) hm h1 h2 h3) k
theorem BG.Jc {f:FuncId} {e:TypeId} {sz:Nat} {rows:List (List Pr)} {ps:List Pr} {res:Pr} {R:BO} (h:BG P f ps res R (fun v=>C_ e sz rows v)):BG P f ps res R (fun v=>B0 e sz rows v):=by
 refine ⟨h.1,fun M0 w0 S rs M w vs hI hv=>(h.2 M0 w0 S rs M w vs hI hv).mono ?_⟩
 rintro e' w' ⟨v,M',rfl,h2,h3,h4⟩
 exact ⟨v,M',rfl,h2,h3,h4.Db (i:=0) rfl rfl rfl (.inr (h4.hold _ (List.mem_cons_self ..)).1)⟩
instance gL (p q:Pr) [Ku p] [Ku q]:Ku (Fa [p,q]):=⟨fun M M' w v ⟨cs,h1,h2⟩=>⟨cs,h1,by
 match cs,h2 with
 |[a,b],h2=>exact ⟨Ku.free _ _ _ _ h2.1,Ku.free _ _ _ _ h2.2.1,trivial⟩⟩⟩
theorem WC {I:Ca} {s t:TypeId} {x:Operand} {k:IntKind} {n:Int} (ho:o.op= .convert s t x) (hs:P.underlying s=some (.int k)) (ht:P.underlying t=some (.int .u64)) (hx:VL E x (is (.int k n))) (h0:0≤n) (h1:n≤18446744073709551615):Ad P I o E (is (.int .u64 n)):=by
 have:=D4 (P:=P) (I:=I) ho hs ht hx
 rwa [IntWalk.u64_in n ⟨h0,h1⟩] at this
theorem ZL {I:Ca} {t u:TypeId} {x y:Operand} {m:Int} (ho:o.op= .binOp .shr t x y u) (hx:VL E x (is (.int .u64 m))) (hy:VL E y (is (.int .u64 1))) (h0:0≤m):Ad P I o E (is (.int .u64 (m/2))):=
 Ad.same fun M w a he _=>by
  have h1:a.eval x= .int .u64 m:=hx.ev he (by simp [ho,Op.operands])
  have h2:a.eval y= .int .u64 1:=hy.ev he (by simp [ho,Op.operands])
  refine ⟨.int .u64 (m.fdiv 2),?_,congrArg (Value.int .u64) (Int.fdiv_eq_ediv_of_nonneg m (by omega))⟩
  simp only [execOp,ho,h1,h2]
  simp [eqGuard,binOp,Op.shift,IntKind.bits]
end
section
variable {P:Program} {L:Lg P} {n:Fm} {fz:Nat} {E:Env} {M0:Av} {w0:World} {S:Nat→Prop} {o:Oper}
def ZM (new:Bool) (b:Nat) (T:TypeId) (off:Nat) (p:Pr) (ps:Value→List Pr) (u:Value):BO:=match u with
 | .tuple t=>AE new b T ((ps (t.getD 0 undef)).take off++[As (t.getD 1 undef) p]++(ps (t.getD 0 undef)).drop (off+1))
 |_=>Bm
theorem Kx {t:TypeId} {x:Operand} {q0 q:Tmp} {j:Nat} {new:Bool} {b off:Nat} {T:TypeId} {ps:Value→List Pr} {p:Pr} [One p] (hg:o.guard=none) (hd:o.dst=none) (ho:o.op= .store t x (.tmp q)) (hx:VL E x (ptr b off)) (hy:E.lookup q=some p)
  (hz:Ap P t=some 1) (hl:∀v,off+1≤(ps v).length):DU P M0 w0 S n j ⟨.one q0,fun v=>AE new b T (ps v)⟩ ⟨.two q0 q,ZM new b T off p ps⟩ o E any:=by
 refine ⟨hg,fun M w a rs hsz he hI hj=> ?_⟩
 have hj':rs[j]? =some (SR.at_ a (SR.c (AE new b T (ps (a.tmps.getD q0 undef))))):=hj
 obtain ⟨h1,h2⟩:=Dd (P:=P) (M0:=M0) (w0:=w0) (S:=S) (n:=n) (j:=j) (new:=new) (T:=T) (ps:=ps (a.tmps.getD q0 undef)) (b:=b) (off:=off) hg hd ho hx hy hz (hl _)
 have h3:=h2 M w a rs hsz he hI hj'
 revert h3
 generalize (execOp a.eval o).run P w=r
 have key:∀v,SR.at_ (a.put o.dst v) ⟨.one q,fun v=>AE new b T ((ps (a.tmps.getD q0 undef)).take off++[As v p]++(ps (a.tmps.getD q0 undef)).drop (off+1))⟩=SR.at_ (a.put o.dst v) ⟨.two q0 q,ZM new b T off p ps⟩:=fun v=>by rw [hd];rfl
 intro h3
 cases r with
 |halt x w'=>exact h3
 |ok x w'=>
  cases x
  case value v=>obtain ⟨M',g1,g2,g3⟩:=h3;exact ⟨M',g1,g2,by rw [←key];exact g3⟩
  case skip=>obtain ⟨M',g1,g2,g3⟩:=h3;exact ⟨M',g1,g2,by rw [←key];exact g3⟩
  case enter f args=>
   refine Calls.mono h3 ?_
   rintro e w'' ⟨v,M',g0,g1,g2,g3⟩
   exact ⟨v,M',g0,g1,g2,by rw [←key];exact g3⟩
  all_goals exact h3
theorem BV.WD {Q:Exit→Act→World→Prop} {rs:List SR} (j1 j2 i s t:Nat) {f g:Value→BO} {new:Bool} {b off:Nat} {T:TypeId} {ps:Value→List Pr} {p q r:Pr} (h1:rs[j1]? =some ⟨.one s,f⟩) (h2:rs[j2]? =some ⟨.one t,g⟩) (h3:rs[i]? =some ⟨.two s t,ZM new b T off r ps⟩) (h12:j1≠j2) (H8:j1≠i) (h23:j2≠i) (hst:s≠t) (hs:E.lookup s=some p) (ht:E.lookup t=some q)
  (k:∀v u,BV n M0 w0 S ((t,As u q)::(s,As v p)::E) (((rs.set j1 (SR.c (f v))).set j2 (SR.c (g u))).set i (SR.c (AE new b T ((ps v).take off++[As u r]++(ps v).drop (off+1))))) Q):BV n M0 w0 S E rs Q:=by
 rintro a w ⟨M,g1,g2,g3,g4⟩
 refine k (a.tmps.getD s undef) (a.tmps.getD t undef) a w ⟨M,g1,g2,?_,?_⟩
 ·
  intro c z hz
  simp only [List.lookup] at hz
  by_cases hct:c=t
  · subst hct;simp only [beq_self_eq_true,Option.some.injEq] at hz;subst hz;exact ⟨rfl,g3 c q ht⟩
  ·
   rw [show (c==t)=false by simpa using hct] at hz
   by_cases hcs:c=s
   · subst hcs;simp only [beq_self_eq_true,Option.some.injEq] at hz;subst hz;exact ⟨rfl,g3 c p hs⟩
   · rw [show (c==s)=false by simpa using hcs] at hz;exact g3 c z hz
 ·
  have e1:=PF h1 a
  have e2:=PF (rs:=rs.set j1 (SR.c (f (a.tmps.getD s undef)))) (j:=j2) (s:=t) (f:=g) (by rw [List.getElem?_set,if_neg h12];exact h2) a
  have h3':((rs.set j1 (SR.c (f (a.tmps.getD s undef)))).set j2 (SR.c (g (a.tmps.getD t undef))))[i]? =some ⟨.two s t,ZM new b T off r ps⟩:=by
   rw [List.getElem?_set,if_neg h23,List.getElem?_set,if_neg H8];exact h3
  rw [List.map_set,e2,e1]
  have e3:(rs.map (·.at_ a)).set i (AE new b T ((ps (a.tmps.getD s undef)).take off++[As (a.tmps.getD t undef) r]++(ps (a.tmps.getD s undef)).drop (off+1)))=rs.map (·.at_ a):=by
   apply List.ext_getElem?
   intro m
   rw [List.getElem?_set]
   by_cases iV:i=m
   ·
    subst iV
    rw [if_pos rfl]
    split
    · rw [List.getElem?_map,h3];rfl
    ·
     rename_i hge
     rw [List.getElem?_eq_none (by omega)]
   · rw [if_neg iV]
  exact (congrArg (fun l=>BU M0 w0 S l M w) e3).mpr g4
end
section
variable {P:Program} {L:Lg P} {n:Fm} {fz:Nat} {E:Env} {M0:Av} {w0:World} {S:Nat→Prop} {rs:List BO} {ε:Type} {res:ε→List BO}
theorem Tr.Ro {Q:Exit→Act→World→Prop} {c:Code} (j:Nat) {new:Bool} {b:Nat} {T:TypeId} {ps:List Pr} (qs:List Pr) (hi:rs[j]? =some (AE new b T ps)) (h:ps=qs) (k:Tr L n E (Hp M0 w0 S (rs.set j (AE new b T qs))) c Q):Tr L n E (Hp M0 w0 S rs) c Q:=by
 subst h;exact Tr.HN j ps hi (LS.rfl' ps) k
theorem Fin.Ro {Q:Exit→Act→World→Prop} {e:Exit} (j:Nat) {new:Bool} {b:Nat} {T:TypeId} {ps:List Pr} (qs:List Pr) (hi:rs[j]? =some (AE new b T ps)) (h:ps=qs) (k:Fin n E (Hp M0 w0 S (rs.set j (AE new b T qs))) Q e):Fin n E (Hp M0 w0 S rs) Q e:=by
 subst h;exact Fin.HN j ps hi (LS.rfl' ps) k
end
section
variable {P:Program} {L:Lg P} {n:Fm} {fz:Nat} {E:Env} {M0:Av} {w0:World} {S:Nat→Prop} {o:Oper}
theorem Qp {I:Ca} {t e:TypeId} {x:Operand} {m:Nat} (ho:o.op= .call { callee:= .builtin .len,args:= #[x],argTypes:= #[t] }) (ht:P.underlying t=some (.slice e)) (hx:VL E x (lens m)):Ad P I o E (int m):=
 Ad.same fun M w a he _=>by
  obtain ⟨A,c,h1⟩:=hx.ev he (by simp [ho,Op.operands,Call.operands])
  exact ⟨.int .i64 m,by simp [execOp,ho,resolve,invoke,builtin,Builtin.len_,h1,run_underlying ht,goInt],rfl⟩
end
end Cp
namespace Cp
open Go Go.RowKit
section
variable {P:Program} {L:Lg P} {I:Ca} {o:Oper} {E:Env}
theorem UY {c y:Operand} {b d:Bool} (ho:o.op= .pick c (.const (.bool true)) y) (hc:VL E c (bool b)) (hy:VL E y (bool d)):Ad P I o E (bool (b||d)):=by
 cases b with
 |true=>exact Kj ho hc rfl (vl rfl)
 |false=>exact Kk ho hc rfl hy
theorem SB {c x:Operand} {b d:Bool} (ho:o.op= .pick c x (.const (.bool false))) (hc:VL E c (bool b)) (hx:VL E x (bool d)):Ad P I o E (bool (b&&d)):=by
 cases b with
 |true=>exact Kj ho hc rfl hx
 |false=>exact Kk ho hc rfl (vl rfl)
end
section
variable {P:Program} {L:Lg P} {n:Fm} {fz:Nat} {E:Env} {M0:Av} {w0:World} {S:Nat→Prop} {rs:List BO} {o:Oper}
end
end Cp
namespace Cp
open Go Go.RowKit Go.Great
def N2 {α:Type} (P:Program) (f:FuncId) (args:List Pr) (pre:List BO) (C:α→Prop) (res:α→Pr) (post:α→List BO):Prop:=Entry P f∧∀M0 w0 S rs M w vs,BU M0 w0 S (pre++rs) M w→HL M w args vs→
 Calls P f vs.toArray w fun e w'=>∃v M' x,e= .returned v∧C x∧(res x).h M' w' v∧Ext M w M' w'∧BU M0 w0 S (post x++rs) M' w'
def OU {α:Type} (M0:Av) (w0:World) (S:Nat→Prop) (rs:List BO) (M1:Av) (w1:World) (C:α→Prop) (res:α→Pr) (post:α→List BO) (e:Ending) (w':World):Prop:=∃v M' x,e= .returned v∧C x∧(res x).h M' w' v∧Ext M1 w1 M' w'∧BU M0 w0 S (post x++rs) M' w'
section
variable {P:Program} {L:Lg P} {n:Fm} {fz:Nat} {E:Env} {M0:Av} {w0:World} {S:Nat→Prop} {rs:List BO} {α:Type} {pre:List BO} {C:α→Prop} {res:α→Pr} {post:α→List BO} {M1:Av} {w1:World} {g:Func} {o:Oper} {r:List Oper} {ops:Array Oper}
theorem N2.of {f : FuncId} {c : Code} {ps : List Pr} (hf : P.funcs[f]? = some g) (hb : g.body = some c) (hname : (g.name == "runtime.NumGoroutine") = false) (hlen : ps.length ≤ g.ntmps)
  (h:∀M0 w0 S rs M1 w1,Tr (cT P) g.ntmps (Ld 0 ps) (Hp M0 w0 S (pre++Bv M1 w1::rs)) c (bodyPost P g (OU M0 w0 S rs M1 w1 C res post))):N2 P f ps pre C res post:=by
 refine ⟨⟨g,hf,hname,by rw [hb];rfl⟩,fun M0 w0 S rs M w vs hI hv=> ?_⟩
 refine calls_of_wp hf hb (h M0 w0 S rs M w _ _ ⟨M,?_,rfl,Iq hv,?_⟩)
 ·
  have:=hv.length
  simp [this];omega
 · exact BU.perm List.perm_middle.symm (BU.Ms hI (r:=Bv M w) rfl (Ext.refl _ _))
theorem BU.NH {M:Av} {w:World} {f:FuncId} {args:List Pr} {rest:List BO} (hf:N2 P f args pre C res post) (hp:rs.Perm (pre++rest)) (hI:BU M0 w0 S rs M w) {vs:List Value} (hv:HL M w args vs):
  Calls P f vs.toArray w fun e w'=>∃v M' x,e= .returned v∧C x∧(res x).h M' w' v∧Ext M w M' w'∧BU M0 w0 S (post x++rest) M' w':=hf.2 M0 w0 S rest M w vs (BU.perm hp hI) hv
theorem TO.NH {Q:Exit→Act→World→Prop} {f:FuncId} {xs:Array Operand} {ts:Array TypeId} {ps:List Pr} (rest:List BO) {d:Nat} (hg:o.guard=none) (hd:o.dst=some d) (hn:d<n) (ho:o.op= .call { callee:= .value (.func f),args:=xs,argTypes:=ts }) (hf:N2 P f ps pre C res post)
  (hv:Fz E xs.toList ps) (hp:rs.Perm (pre++rest)) (k:∀x,C x→TO P n ops r ((d,res x)::E) (Hp M0 w0 S (post x++rest)) Q):TO P n ops (o::r) E (Hp M0 w0 S rs) Q:=
 TO.VV hg fun K M w a hsz hdf he hI hK=>by
  have hI:BU M0 w0 S rs M w:=hI
  have h1:=Fz.Ev (o:=o) (Cj he) (xs:=xs.toList) (fun x hx=>by simp [ho,Op.operands,Call.operands];exact .inr (by simpa using hx)) hv
  have hrun:(execOp a.eval o).run P w= .ok (.enter f (xs.toList.map a.eval).toArray) w:=by
   simp [execOp,ho,resolve,Deferred.ofValue,Act.eval,invoke,EI hf.1,GA xs]
  unfold Oper.wp
  rw [hrun]
  refine (BU.NH hf hp hI h1).mono ?_
  rintro e w' ⟨v,M',x,rfl,hC,h2,h3,h4⟩
  refine hK _ _ _ _ (k x hC) ⟨M',by rw [CL];exact hsz,by rw [put_defers];exact hdf,?_,h4⟩
  intro s q hq
  simp only [List.lookup] at hq
  by_cases hs:s=d
  · subst hs;simp at hq;subst hq;rw [hd,B2 (by rw [hsz];exact hn)];exact h2
  · rw [show (s==d)=false by simpa using hs] at hq;rw [hd,CK hs];exact q.st _ _ _ _ _ h3 (he s q hq)
theorem ju {l:List BO} {M:Av} {w:World} (h:BU M0 w0 S (l++Bv M1 w1::rs) M w):Ext M1 w1 M w∧BU M0 w0 S (l++rs) M w:=
 ⟨(h.hold (Bv M1 w1) (by simp)).1,(BU.perm List.perm_middle h).LQ⟩
theorem Fin.Qq {rv:ResultVar} {q:Pr} {rs':List BO} (x:α) (hr:g.results= #[rv]) (h:AW P E rs' rv q) (hC:C x) (hl:Pr.le q (res x)) (hp:rs'.Perm (post x++Bv M1 w1::rs)):
  Fin ⟨fz,[]⟩ E (Hp M0 w0 S rs') (bodyPost P g (OU M0 w0 S rs M1 w1 C res post)) .ret:=by
 rintro a w ⟨M,_,hd,he,hi⟩
 have hi:BU M0 w0 S rs' M w:=hi
 obtain ⟨v,hv,Ns⟩:=h M w a he (fun q hq=>(hi.hold q hq).1)
 obtain ⟨h1,h2⟩:=ju (BU.perm hp hi)
 exact ⟨hd,v,results1 hr hv,_,M,x,rfl,hC,hl _ _ _ Ns,h1,h2⟩
end
section
variable {P:Program} {L:Lg P} {n:Fm} {fz:Nat} {E:Env} {M0:Av} {w0:World} {S:Nat→Prop} {rs:List BO} {o:Oper}
def dj:Value→Option Nat
 | .slice (some a) _ (_+1)=>some a.block
 |_=>none
def Af (e:TypeId) (sz:Nat) (rows:List (List Pr)) (v:Value):BO where
 IB:=dj v
 new:=true
 h M w:=(rows=[]∧∃A,v= .slice A 0 0)∨(∃(b cap:Nat) (spare:List Value),v= .slice (some ⟨b,0,none⟩) rows.length (cap+1)∧rows.length≤cap+1∧cap+1≤maxLen∧spare.length=(cap+1-rows.length)*sz∧(AE true b e (rows.flatten++spare.map is)).h M w)
 st M w M' w' he hk h:=by
  rcases h with h|⟨b,cap,spare,rfl,h1,h2,h3,h4⟩
  · exact .inl h
  · exact .inr ⟨b,cap,spare,rfl,h1,h2,h3,(AE true b e _).st _ _ _ _ he hk h4⟩
theorem A1 {α:Type} {l:List α} {j:Nat} {x:α} (h:l[j]? =some x):j<l.length:=by
 rcases Nat.lt_or_ge j l.length with h'|h'
 · exact h'
 · rw [List.getElem?_eq_none h'] at h;cases h
theorem BU.blank {M:Av} {w:World} {j:Nat} {r:BO} (h:BU M0 w0 S rs M w) (hj:rs[j]? =some r):BU M0 w0 S (rs.set j Bm) M w:=
 BU.perm (Jz (A1 hj)) ((BU.perm (AO hj) h).LQ.Ms (r:=Bm) rfl trivial)
theorem NI (sz:Nat) (A:Option Addr) (M:Av) (w:World):(slice sz []).h M w (.slice A 0 0):=⟨A,0,rfl,Nat.le_refl _,Nat.zero_le _,fun _=>rfl,fun i row h=>by simp at h⟩
theorem OV (sz:Nat) (A:Option Addr) (M:Av) (w:World):(full sz []).h M w (.slice A 0 0):=⟨NI sz A M w,A,rfl⟩
theorem BU.ZN {M:Av} {w:World} {sz:Nat} {e:TypeId} {rows:List (List Pr)} {v:Value} {j:Nat} (h:BU M0 w0 S rs M w) (hj:rs[j]? =some (Af e sz rows v)) (hl:∀r∈rows,r.length=sz):
  ∃M',Ext M w M' w∧BU M0 w0 S (rs.set j Bm) M' w∧(slice sz rows).h M' w v:=by
 have hjl:=A1 hj
 rcases (h.hold _ (List.mem_of_getElem? hj)).1 with ⟨rfl,A,rfl⟩|⟨b,cap,spare,rfl,hnc,hcm,hsp,Th⟩
 · exact ⟨M,Ext.refl _ _,h.blank hj,NI sz A M w⟩
 ·
  have hC:=h.Db (r':=AE true b e (rows.flatten++spare.map is)) hj rfl rfl Th
  obtain ⟨M',h1,h2,h3⟩:=BU.ZA hC (List.getElem?_set_self hjl) hl hnc hcm (by rw [List.length_map];exact hsp)
  have h4:=h2.blank (j:=j) (by rw [List.set_set];exact List.getElem?_set_self hjl)
  rw [List.set_set,List.set_set] at h4
  exact ⟨M',h1,h4,h3⟩
theorem HL.set {M:Av} {w:World} {ps:List Pr} {vs:List Value} {k:Nat} {p q:Pr} (h:HL M w ps vs) (hk:ps[k]? =some p) (hq:∀u,p.h M w u→q.h M w u):HL M w (ps.set k q) vs:=by
 refine Qh (by rw [h.length];simp) fun k' p' hk'=> ?_
 rw [List.getElem?_set] at hk'
 split at hk'
 ·
  rename_i e1
  subst e1
  split at hk'
  ·
   obtain ⟨u,hu,cW⟩:=h.at_ k p hk
   simp at hk';subst hk'
   exact ⟨u,hu,hq u cW⟩
  · cases hk'
 · exact h.at_ k' p' hk'
theorem BU.Fv {M:Av} {w:World} {i j k sz b:Nat} {new:Bool} {T e:TypeId} {ps:List Pr} {rows:List (List Pr)} {v:Value} (h:BU M0 w0 S rs M w) (hi:rs[i]? =some (AE new b T ps)) (hj:rs[j]? =some (Af e sz rows v)) (hij:j≠i) (hk:ps[k]? =some (is v)) (hl:∀r∈rows,r.length=sz):
  ∃M',Ext M w M' w∧BU M0 w0 S ((rs.set j Bm).set i (AE new b T (ps.set k (slice sz rows)))) M' w:=by
 obtain ⟨M',h1,h2,h3⟩:=h.ZN hj hl
 have hi':(rs.set j Bm)[i]? =some (AE new b T ps):=by rw [List.getElem?_set_ne hij];exact hi
 refine ⟨M',h1,h2.Db hi' rfl rfl ?_⟩
 obtain ⟨g1,cs,g2,g3,g4⟩:=(h2.hold _ (List.mem_of_getElem? hi')).1
 exact ⟨g1,cs,g2,g3.set hk (fun u hu=>by rw [show u=v from hu];exact h3),g4⟩
theorem BG.Iu {f:FuncId} {e:TypeId} {sz:Nat} {rows:List (List Pr)} {v:Value} {ps:List Pr} {res:Pr} {R':Value→BO} (hE:Entry P f) (h0:rows=[]→BG P f (full sz []::ps) res Bm R')
  (h1:∀(b cap:Nat) (sp:List Value),rows.length≤cap→cap≤maxLen→sp.length=(cap-rows.length)*sz→BG P f (As (.slice (some ⟨b,0,none⟩) rows.length cap) (lens rows.length)::ps) res (AE true b e (rows.flatten++sp.map is)) R'):
  BG P f (is v::ps) res (Af e sz rows v) R':=by
 refine ⟨hE,fun M0 w0 S rs M w vs hI hv=> ?_⟩
 match vs,hv with
 |u0::vs1,G_=>
  obtain ⟨IA,Gz⟩:=G_
  obtain rfl:u0=v:=IA
  rcases (hI.hold _ (List.mem_cons_self ..)).1 with ⟨hnil,A,rfl⟩|⟨b,cap,spare,rfl,hnc,hcm,hsp,Th⟩
  · exact (h0 hnil).2 M0 w0 S rs M w _ (hI.blank (j:=0) rfl) (show HL M w (_::_) (_::vs1) from ⟨OV sz A M w,Gz⟩)
  ·
   have hC:=hI.Db (i:=0) (r':=AE true b e (rows.flatten++spare.map is)) rfl rfl rfl Th
   exact (h1 b (cap+1) spare hnc hcm hsp).2 M0 w0 S rs M w _ hC (show HL M w (_::_) (_::vs1) from ⟨⟨rfl,_,_,rfl⟩,Gz⟩)
theorem BG.NJ {f:FuncId} {e:TypeId} {sz:Nat} {rows:List (List Pr)} {v:Value} {ps:List Pr} {res:Pr} [Ku res] (hl:∀r∈rows,r.length=sz) (h:A_ P f (slice sz rows::ps) res):
  BG P f (is v::ps) res (Af e sz rows v) (fun _=>Af e sz rows v):=by
 refine ⟨h.1,fun M0 w0 S rs M w vs hI hv=> ?_⟩
 match vs,hv with
 |u0::vs1,G_=>
  obtain ⟨IA,Gz⟩:=G_
  obtain rfl:u0=v:=IA
  obtain ⟨M',hx,Nt,hs⟩:=BU.ZN (j:=0) hI rfl hl
  refine (h.2 M' w _ Nt.bd (show HL M' w (_::_) (_::vs1) from ⟨hs,Gz.st hx⟩)).mono ?_
  rintro e' w' ⟨u,rfl,h2,h3⟩
  exact ⟨u,M,rfl,Ku.free _ _ _ _ h2,Ext.below h3,(Hp M0 w0 S _).st _ _ _ h3 hI⟩
def part (sz:Nat) (v:Value) (k:Nat):Pr where
 h _ _ u:=∃a m c,v= .slice a m c∧k≤m∧u= .slice (if c=k then a else a.map fun x=>x.add (k*sz)) (m-k) (c-k)
 st _M _w _M' _w' _v _ h:=h
instance jv (sz:Nat) (v:Value) (k:Nat):One (part sz v k):=⟨by rintro M w u ⟨a,m,c,h1,h2,rfl⟩;exact ⟨rfl,rfl⟩⟩
theorem SC {sz k:Nat} {rows:List (List Pr)} {v u:Value} {M:Av} {w:World} (h:(slice sz rows).h M w v) (hu:(part sz v k).h M w u):(slice sz (rows.drop k)).h M w u:=by
 obtain ⟨A,cap,rfl,hc,hm,hA,hr⟩:=h
 obtain ⟨a,m,c,hv,hk,rfl⟩:=hu
 injection hv with e1 e2 e3
 subst e1;subst e2;subst e3
 refine ⟨_,cap-k,by rw [List.length_drop],by rw [List.length_drop];omega,by omega,fun hn=> ?_,fun i row hi=> ?_⟩
 ·
  split at hn
  · have:=hA hn;omega
  ·
   cases A with
   |none=>have:=hA rfl;omega
   |some x=>cases hn
 ·
  rw [List.getElem?_drop] at hi
  obtain ⟨h1,ad,rfl,h3⟩:=hr _ _ hi
  have:=A1 hi
  refine ⟨h1,ad.add (k*sz),by rw [if_neg (by omega)];rfl,fun j p hp=> ?_⟩
  obtain ⟨q,h4,h5,h6,h7⟩:=h3 j p hp
  have e:k*sz+(i*sz+j)=(k+i)*sz+j:=by rw [Nat.add_mul];omega
  exact ⟨q,by rw [add_add,e];exact h4,by rw [Da,Fy,Nat.add_assoc,e];exact h5,h6,h7⟩
theorem BG.ZA {f:FuncId} {args:List Pr} {e:TypeId} {sz m:Nat} {rows:List (List Pr)} {R:BO} (hl:∀r∈rows,r.length=sz) (h:BG P f args (lens m) R (fun v=>B0 e sz rows v)):BG P f args (slice sz rows) R (fun _=>Bm):=by
 refine ⟨h.1,fun M0 w0 S rs M w vs hI hv=>(h.2 M0 w0 S rs M w vs hI hv).mono ?_⟩
 rintro e' w' ⟨v,M',rfl,h2,h3,h4⟩
 obtain ⟨M2,j1,j2,j3⟩:=BU.ji (j:=0) h4 rfl hl
 exact ⟨v,M2,rfl,j3,h3.trans j1,j2.blank (j:=0) rfl⟩
theorem BG.jw {f:FuncId} {args:List Pr} {e:TypeId} {sz m:Nat} {rows:List (List Pr)} {R:BO} (hl:∀r∈rows,r.length=sz) (h:BG P f args (lens m) R (fun v=>C_ e sz rows v)):BG P f args (slice sz rows) R (fun _=>Bm):=
 BG.ZA hl (BG.Jc h)
theorem BG.Jd {f:FuncId} {e:TypeId} {sz:Nat} {rows:List (List Pr)} {ps:List Pr} {res:Pr} {R:BO} (h0:rows≠[]) (h:BG P f ps res R (fun v=>C_ e sz rows v)):BG P f ps res R (fun v=>Af e sz rows v):=by
 refine ⟨h.1,fun M0 w0 S rs M w vs hI hv=>(h.2 M0 w0 S rs M w vs hI hv).mono ?_⟩
 rintro e' w' ⟨v,M',rfl,h2,h3,h4⟩
 refine ⟨v,M',rfl,h2,h3,?_⟩
 have hpos:=List.length_pos_iff.2 h0
 obtain ⟨b,cap,spare,rfl,hnc,hcm,hsp,Th⟩:=(h4.hold _ (List.mem_cons_self ..)).1
 cases cap with
 |zero=>omega
 |succ cap=>exact h4.Db (i:=0) rfl rfl rfl (.inr ⟨b,cap,spare,rfl,hnc,hcm,hsp,Th⟩)
theorem BG.NK {f:FuncId} {e:TypeId} {sz sz':Nat} {ps:List Pr} (h:A_ P f ps (full sz' [])):BG P f ps (lens 0) Bm (fun v=>Af e sz [] v):=by
 refine ⟨h.1,fun M0 w0 S rs M w vs hI hv=>(h.2 M w vs hI.bd hv).mono ?_⟩
 rintro e' w' ⟨v,rfl,⟨_,a,rfl⟩,h3⟩
 refine ⟨_,M,rfl,⟨_,_,rfl⟩,Ext.below h3,?_⟩
 have Nt:BU M0 w0 S (Bm::rs) M w':=(Hp M0 w0 S _).st _ _ _ h3 hI
 exact Nt.Db (i:=0) (r':=Af e sz [] (.slice a 0 0)) rfl (by cases a<;>rfl) rfl (.inl ⟨rfl,a,rfl⟩)
theorem Tj {t e:TypeId} {x y:Operand} {k:IntKind} {l:Int} {sz j:Nat} {T:TypeId} {rows:List (List Pr)} {v:Value} (ho:o.op= .slice t x (some y) none none) (ht:P.underlying t=some (.slice e)) (hz:Ap P e=some sz) (hx:VL E x (is v)) (hy:VL E y (is (.int k l))) (h0:0≤l) (hl:l≤rows.length):
  Hy P M0 w0 S j (SR.c (Af T sz rows v)) o E (part sz v l.toNat):=by
 intro M w a rs he hI hj
 have h1:a.eval x=v:=hx.ev he (by simp [ho,Op.operands])
 have h3:a.eval y= .int k l:=hy.ev he (by simp [ho,Op.operands])
 have hj':rs[j]? =some (Af T sz rows v):=hj
 rcases (hI.hold _ (List.mem_of_getElem? hj')).1 with ⟨rfl,A,hv⟩|⟨b,cap,spare,hv,hnc,hcm,hsp,Th⟩
 ·
  have SD:l=0:=by simp at hl;omega
  subst SD
  have hrun:(execOp a.eval o).run P w= .ok (.value (.slice A 0 0)) w:=by
   simp [execOp,ho,h1,h3,hv,Instr.sliceAt,Instr.slice,run_underlying ht,Instr.sliceBounds,Instr.sliceBound,asIntOf,Bb hz]
  rw [hrun]
  exact ⟨⟨A,0,0,hv,Nat.le_refl _,by simp⟩,Below.refl _ _⟩
 ·
  have hrun:(execOp a.eval o).run P w= .ok (.value (.slice (if cap+1=l.toNat then some ⟨b,0,none⟩ else some ⟨b,l.toNat*sz,none⟩) (rows.length-l.toNat) (cap+1-l.toNat))) w:=by
   by_cases hne:cap+1=l.toNat<;>
   simp [execOp,ho,h1,h3,hv,Instr.sliceAt,Instr.slice,run_underlying ht,Instr.sliceBounds,Instr.sliceBound,asIntOf,h0,hl,Bb hz,hne,Co]
  rw [hrun]
  refine ⟨⟨_,_,_,hv,by omega,?_⟩,Below.refl _ _⟩
  simp [Co]
def bq (sz:Nat) (v:Value) (i o:Nat):Pr where
 h _ _ u:=∃a m c,v= .slice (some a) m c∧u= .pointer (some (a.add (i*sz+o)))
 st _M _w _M' _w' _v _ h:=h
instance mq (sz:Nat) (v:Value) (k o:Nat):One (bq sz v k o):=⟨by rintro M w u ⟨a,m,c,h1,rfl⟩;exact ⟨rfl,rfl⟩⟩
theorem D1 {t e:TypeId} {x y:Operand} {k:IntKind} {l:Int} {sz j:Nat} {T:TypeId} {rows:List (List Pr)} {v:Value} (ho:o.op= .indexAddr t x y) (ht:P.underlying t=some (.slice e)) (hz:Ap P e=some sz) (hx:VL E x (is v)) (hy:VL E y (is (.int k l))) (h0:0≤l) (hl:l<rows.length):
  Hy P M0 w0 S j (SR.c (Af T sz rows v)) o E (bq sz v l.toNat 0):=by
 intro M w a rs he hI hj
 have h1:a.eval x=v:=hx.ev he (by simp [ho,Op.operands])
 have h3:a.eval y= .int k l:=hy.ev he (by simp [ho,Op.operands])
 have hj':rs[j]? =some (Af T sz rows v):=hj
 rcases (hI.hold _ (List.mem_of_getElem? hj')).1 with ⟨rfl,A,hv⟩|⟨b,cap,spare,hv,hnc,hcm,hsp,Th⟩
 · simp at hl;omega
 ·
  have hrun:(execOp a.eval o).run P w= .ok (.value (.pointer (some ((⟨b,0,none⟩:Addr).add (l.toNat*sz))))) w:=by
   simp [execOp,ho,h1,h3,hv,Instr.indexAt,asIntOf,run_underlying ht,Bb hz,h0,hl]
  rw [hrun]
  exact ⟨⟨_,_,_,hv,rfl⟩,Below.refl _ _⟩
theorem SE {I:Ca} {t:TypeId} {x:Operand} {f sz i q off:Nat} {v:Value} (ho:o.op= .fieldAddr t x f) (hf:Ag P t f=some off) (hx:VL E x (bq sz v i q)):Ad P I o E (bq sz v i (q+off)):=
 Ad.same fun M w a he _=>by
  obtain ⟨a0,m0,c0,hv,h1⟩:=hx.ev he (by simp [ho,Op.operands])
  exact ⟨.pointer (some ((a0.add (i*sz+q)).add off)),by simp [execOp,ho,h1,IF hf],a0,m0,c0,hv,by rw [add_add,Nat.add_assoc]⟩
theorem EL {t:TypeId} {x:Operand} {sz j i:Nat} {T:TypeId} {rows:List (List Pr)} {row:List Pr} {v:Value} (ho:o.op= .load t x) (ht:FJ P t=true) (hz:Ap P t=some sz) (hx:VL E x (bq sz v i 0)) (hl:∀r∈rows,r.length=sz) (hi:rows[i]? =some row):
  Hy P M0 w0 S j (SR.c (Af T sz rows v)) o E (agg row):=by
 intro M w a rs he hI hj
 obtain ⟨a0,m0,c0,Vn,h1⟩:=hx.ev he (by simp [ho,Op.operands])
 rw [Nat.add_zero] at h1
 have hj':rs[j]? =some (Af T sz rows v):=hj
 rcases (hI.hold _ (List.mem_of_getElem? hj')).1 with ⟨rfl,A,hv⟩|⟨b,cap,spare,hv,hnc,hcm,hsp,⟨_,cs,h4,h5,h6⟩⟩
 · simp at hi
 ·
  rw [Vn] at hv
  injection hv with e1 e2 e3
  injection e1 with e1
  subst e1
  have EO:=A1 hi
  have hrl:=hl row (List.mem_of_getElem? hi)
  have hfl:=CY hl
  have hle:(i+1)*sz≤rows.length*sz:=Nat.mul_le_mul_right sz EO
  rw [Nat.add_mul] at hle
  have h7:HL M w row ((cs.drop (i*sz)).take sz):=by
   have h8:=(h5.drop (i*sz)).take sz
   have e4:((rows.flatten++spare.map is).drop (i*sz)).take sz=row:=by
    refine List.ext_getElem? fun j=> ?_
    rw [List.getElem?_take]
    split
    ·
     rename_i hj
     rw [List.getElem?_drop,List.getElem?_append_left (by rw [hfl];omega),HT hl hi hj]
    · rw [List.getElem?_eq_none (by omega)]
   rwa [e4] at h8
  have hl':((cs.drop (i*sz)).take sz).length=sz:=by rw [h7.length,hrl]
  have hrun:(loadCells ((⟨b,0,none⟩:Addr).add (i*sz)) sz).run P w= .ok ((cs.drop (i*sz)).take sz).toArray w:=by
   have:=run_loadCells_list (P:=P) w ((⟨b,0,none⟩:Addr).add (i*sz)) ((cs.drop (i*sz)).take sz) (fun k u hk=>by
    rw [add_add,Co]
    rw [List.getElem?_take] at hk
    split at hk
    · rw [List.getElem?_drop] at hk;simp [World.cell?,h4,hk]
    · cases hk)
   rwa [hl'] at this
  have Cz:(execOp a.eval o).run P w= .ok (.value (.agg ((cs.drop (i*sz)).take sz).toArray)) w:=by simp [execOp,ho,h1,Instr.loadAt,Instr.sureAddr,loadVar,DM ht,Bb hz,hrun]
  rw [Cz]
  exact ⟨⟨_,rfl,fun c hc=>h6 c (List.mem_of_mem_drop (List.mem_of_mem_take hc)),h7⟩,Below.refl _ _⟩
theorem Qr {sz:Nat}:∀{rows:List (List Pr)} {i:Nat} {row:List Pr} {o:Nat} {qs S:List Pr},(∀r∈rows,r.length=sz)→rows[i]? =some row→o+qs.length≤sz→
  (rows.flatten++S).take (i*sz+o)++qs++(rows.flatten++S).drop (i*sz+o+qs.length)=(rows.set i (row.take o++qs++row.drop (o+qs.length))).flatten++S
 |[],_,_,_,_,_,_,h,_=>by simp at h
 |a::l,0,row,o,qs,S,hl,h,ho=>by
  simp at h;subst h
  have h1:=hl a (by simp)
  rw [List.set_cons_zero,List.flatten_cons,List.flatten_cons,Nat.zero_mul,Nat.zero_add,List.append_assoc a,List.take_append_of_le_length (by omega),List.drop_append_of_le_length (by omega)]
  simp
 |a::l,i+1,row,o,qs,S,hl,h,ho=>by
  have h1:=hl a (by simp)
  have ih:=Qr (S:=S) (fun r hr=>hl r (List.mem_cons_of_mem _ hr)) (i:=i) (row:=row) (o:=o) (qs:=qs) (by simpa using h) ho
  rw [List.set_cons_succ, List.flatten_cons, List.flatten_cons, List.append_assoc a, List.append_assoc a, ← ih, List.take_append, List.drop_append, List.take_of_length_le (by rw [h1, Nat.succ_mul]; omega), List.drop_of_length_le (by rw [h1, Nat.succ_mul]; omega),
   show (i+1)*sz+o-a.length=i*sz+o by rw [h1,Nat.succ_mul];omega,show (i+1)*sz+o+qs.length-a.length=i*sz+o+qs.length by rw [h1,Nat.succ_mul];omega]
  simp
theorem Dt {t:TypeId} {x y:Operand} {sz j i q m:Nat} {T:TypeId} {rows Ai:List (List Pr)} {row qs:List Pr} {v:Value} (hg:o.guard=none) (ho:o.op= .store t x y) (hx:VL E x (bq sz v i q)) (hy:VL E y (Dp qs)) (hz:Ap P t=some m) (hm:qs.length=m)
  (hl:∀r∈rows,r.length=sz) (hi:rows[i]? =some row) (hq:q+m≤sz) (hps:rows.set i (row.take q++qs++row.drop (q+m))=Ai):DU P M0 w0 S n j (SR.c (Af T sz rows v)) (SR.c (Af T sz Ai v)) o E any:=by
 refine ⟨hg,fun M w a rs hsz he hI hj=> ?_⟩
 obtain ⟨a0,m0,c0,Vn,h1⟩:=hx.ev he (show x∈o.op.operands.toList by simp [ho,Op.operands])
 obtain ⟨h2,h3⟩:=hy.ev he (show y∈o.op.operands.toList by simp [ho,Op.operands])
 have hj':rs[j]? =some (Af T sz rows v):=hj
 have hjl:=A1 hj'
 rcases (hI.hold _ (List.mem_of_getElem? hj')).1 with ⟨rfl,A,hv⟩|⟨b,cap,spare,hv,hnc,hcm,hsp,Th⟩
 · simp at hi
 ·
  subst hv
  injection Vn with e1 e2 e3
  injection e1 with e1
  subst e1
  have hC:=hI.Db (r':=AE true b T (rows.flatten++spare.map is)) hj' rfl rfl Th
  have mh:(rs.set j (AE true b T (rows.flatten++spare.map is)))[j]? =some (AE true b T (rows.flatten++spare.map is)):=List.getElem?_set_self hjl
  obtain ⟨_,cs,h4,h5,h6⟩:=Th
  have X9:=h5.length
  have bF:=h2.length
  have EO:=A1 hi
  have hfl:=CY hl
  rw [List.length_append,hfl,List.length_map] at X9
  have hle:(i+1)*sz≤rows.length*sz:=Nat.mul_le_mul_right sz EO
  rw [Nat.succ_mul] at hle
  have hcells:(a.eval y).cells.size=m:=by rw [←hm,←bF];simp
  have hrun:(storeCells ((⟨b,0,none⟩:Addr).add (i*sz+q)) (a.eval y).cells.toList 0).run P w= .ok () (w.setRow b (cs.take (i*sz+q)++(a.eval y).cells.toList++cs.drop (i*sz+q+m)).toArray):=by
   have:=run_storeCells_at (P:=P) b (i*sz+q) T (a.eval y).cells.toList 0 cs.toArray w h4 (by simp;omega) h3
   rw [Co,Nat.zero_add]
   simpa [hcells] using this
  have Cz:(execOp a.eval o).run P w= .ok .skip (w.setRow b (cs.take (i*sz+q)++(a.eval y).cells.toList++cs.drop (i*sz+q+m)).toArray):=by
   simp [execOp,ho,h1,Instr.storeAt,Instr.sureAddr,storeVar,Bb hz,hcells,hrun]
  rw [Cz]
  have hfs:=Qr (S:=spare.map is) hl hi (o:=q) (qs:=qs) (by omega)
  rw [hm,hps] at hfs
  obtain ⟨h7, h8⟩ := BU.write (qs := Ai.flatten ++ spare.map is) (cs := cs.take (i * sz + q) ++ (a.eval y).cells.toList ++ cs.drop (i * sz + q + m)) hC mh (by rw [← hfs]; exact (((h5.take (i * sz + q)).app h2)).app (h5.drop (i * sz + q + m)))
   (fun c hc=>by
    simp only [List.mem_append] at hc
    rcases hc with (hc|hc)|hc
    · exact h6 c (List.mem_of_mem_take hc)
    · exact h3 c hc
    · exact h6 c (List.mem_of_mem_drop hc))
  rw [List.set_set] at h7
  refine ⟨M,trivial,h8,?_⟩
  have hlen:Ai.length=rows.length:=by rw [←hps,List.length_set]
  have h9:=h7.Db (r':=Af T sz Ai (.slice (some ⟨b,0,none⟩) rows.length (cap+1))) (List.getElem?_set_self hjl) rfl rfl (.inr ⟨b,cap,spare,by rw [hlen],by rw [hlen];exact hnc,hcm,by rw [hlen];exact hsp,(h7.hold _ (List.mem_of_getElem? (List.getElem?_set_self hjl))).1⟩)
  rw [List.set_set] at h9
  exact h9
theorem KC {I:Ca} {t e:TypeId} {x y z:Operand} {k k':IntKind} {l h:Int} {sz b m cap:Nat} (ho:o.op= .slice t x (some y) (some z) none) (ht:P.underlying t=some (.slice e)) (hz:Ap P e=some sz) (hx:VL E x (is (.slice (some ⟨b,0,none⟩) m cap))) (hy:VL E y (is (.int k l))) (hzv:VL E z (is (.int k' h))) (h0:0≤l) (hlh:l<h) (hl:h≤cap):
  Ad P I o E (is (.slice (some ⟨b,l.toNat*sz,none⟩) (h.toNat-l.toNat) (cap-l.toNat))):=
 Ad.same fun M w a he _=>by
  have h1:a.eval x=_:=hx.ev he (by simp [ho,Op.operands])
  have h3:a.eval y=_:=hy.ev he (by simp [ho,Op.operands])
  have h5:a.eval z=_:=hzv.ev he (by simp [ho,Op.operands])
  have hne:¬cap=l.toNat:=by omega
  have h00:0≤h:=by omega
  have hle:l≤h:=by omega
  have m1:max h 0=h:=by omega
  have m2:¬h<l:=by omega
  refine ⟨_,?_,rfl⟩
  simp [execOp,ho,h1,h3,h5,Instr.sliceAt,Instr.slice,run_underlying ht,Instr.sliceBounds,Instr.sliceBound,asIntOf,h0,h00,hle,hl,m1,m2,Bb hz,hne,Co]
theorem IV {I:Ca} {t e:TypeId} {x y z u:Operand} {k k' k2:IntKind} {l h c:Int} {sz b m cap:Nat} (ho:o.op= .slice t x (some y) (some z) (some u)) (ht:P.underlying t=some (.slice e)) (hz:Ap P e=some sz) (hx:VL E x (is (.slice (some ⟨b,0,none⟩) m cap))) (hy:VL E y (is (.int k l))) (hzv:VL E z (is (.int k' h))) (hu:VL E u (is (.int k2 c))) (h0:0≤l) (hlh:l≤h) (hhc:h≤c) (hl:c≤cap):
  Ad P I o E (lens (h.toNat-l.toNat)):=
 Ad.same fun M w a he _=>by
  have h1:a.eval x=_:=hx.ev he (by simp [ho,Op.operands])
  have h3:a.eval y=_:=hy.ev he (by simp [ho,Op.operands])
  have h5:a.eval z=_:=hzv.ev he (by simp [ho,Op.operands])
  have h7:a.eval u=_:=hu.ev he (by simp [ho,Op.operands])
  have h00:0≤h:=by omega
  have h01:0≤c:=by omega
  have m1:max h 0=h:=by omega
  have m3:max l 0=l:=by omega
  have m4:max c 0=c:=by omega
  have m5:¬h<l:=by omega
  have m6:¬c<h:=by omega
  refine ⟨.slice (if c.toNat=l.toNat then some ⟨b,0,none⟩ else some ⟨b,l.toNat*sz,none⟩) (h.toNat-l.toNat) (c.toNat-l.toNat),?_,_,_,rfl⟩
  by_cases hne:c.toNat=l.toNat<;>
  simp [execOp,ho,h1,h3,h5,h7,Instr.sliceAt,Instr.slice,run_underlying ht,Instr.sliceBounds,Instr.sliceBound,asIntOf,h0,h00,h01,hlh,hhc,hl,m1,m3,m4,m5,m6,Bb hz,hne,Co]<;>(intro _;exfalso;omega)
theorem BU.bt:∀{l:List BO} {M:Av} {w:World},BU M0 w0 S (l++rs) M w→BU M0 w0 S rs M w
 |[],_,_,h=>h
 |_::l,_,_,h=>BU.bt (l:=l) h.LQ
end
end Cp
