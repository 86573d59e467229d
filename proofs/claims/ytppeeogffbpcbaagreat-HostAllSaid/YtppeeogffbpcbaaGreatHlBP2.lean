/-
  Part 2 of the texts that prove this claim, merged.
-/
import Derived.Laws.MakeOwn
import Derived.Test.YtppeeogffbpcbaaGreatProg
import Derived.KernelRfl
import Derived.Lib.ConvBytes
import Derived.Lib.Bytealg
import Derived.Laws.StructEq
import Derived.Laws.Externs
import Derived.Lib.AtoiErrMem
import Derived.Laws.IdiomRangeMap
import Derived.Sort.LotA
import Derived.Sort.LotB
import Derived.Sort.LotC
import Derived.Lib.AppendZeros
import Derived.Lib.AppendZerosOnto
import Derived.Test.YtppeeogffbpcbaaGreatHlBP1
set_option linter.all false
set_option maxRecDepth 40000
set_option maxHeartbeats 16000000
namespace Cp
open Go Go.RowKit Go.Great
section
variable {P:Program} {L:Lg P} {n:Fm} {fz:Nat} {E:Env} {I:Ci} {Q:Exit→Act→World→Prop}
theorem Tr.V1 {α0:Type} (K:Env) (hK:C7 E K) (F:α0→Env) (Ii:α0→Ci) (C:α0→Prop) (μ:α0→Nat) {c:Code} (Jy:α0)  (h0:C Jy) (hs:C7 E (F Jy)) (hI:∀M w,I.h M w→(Ii Jy).h M w)
  (round:∀x0,C x0→Tr L n (F x0++K) (Ii x0) c (Exit.then (fun a w=>∃Ef,(C Ef∧μ Ef<μ x0)∧St n (F Ef++K) (Ii Ef) a w) Q)):Tr L n E I (.loop c) Q:=
 Tr.MY K hK (fun y:α0=>F y) (fun y=>Ii y) (fun y=>C y) (fun y=>μ y) Jy h0 hs hI fun y hy=>
  Tr.post (round y hy) fun e a w h=>by
   cases e<;>first|exact h|(obtain ⟨Ef,h1,h2⟩:=h;exact ⟨Ef,h1,h2⟩)
theorem Fin.O8 {α0:Type} {E1:α0→Env} {I1:α0→Ci} {C:α0→Prop} (x0:α0)  (hC:C x0) (hs:C7 E (E1 x0)) (hI:∀M w,I.h M w→(I1 x0).h M w):
  Fin n E I (Exit.then (fun a w=>∃Ef,C Ef∧St n (E1 Ef) (I1 Ef) a w) Q) .normal:=fun _ _ hst=>⟨x0,hC,hst.sub hs hI⟩
theorem Tr.Fl {α0 α1:Type} (K:Env) (hK:C7 E K) (F:α0→α1→Env) (Ii:α0→α1→Ci) (C:α0→α1→Prop) (μ:α0→α1→Nat) {c:Code} (Jy:α0) (Lt:α1)  (h0:C Jy Lt) (hs:C7 E (F Jy Lt)) (hI:∀M w,I.h M w→(Ii Jy Lt).h M w)
  (round:∀x0 x1,C x0 x1→Tr L n (F x0 x1++K) (Ii x0 x1) c (Exit.then (fun a w=>∃Ef Fb,(C Ef Fb∧μ Ef Fb<μ x0 x1)∧St n (F Ef Fb++K) (Ii Ef Fb) a w) Q)):Tr L n E I (.loop c) Q:=
 Tr.MY K hK (fun y:α0×α1=>F y.1 y.2) (fun y=>Ii y.1 y.2) (fun y=>C y.1 y.2) (fun y=>μ y.1 y.2) (Jy,Lt) h0 hs hI fun y hy=>
  Tr.post (round y.1 y.2 hy) fun e a w h=>by
   cases e<;>first|exact h|(obtain ⟨Ef,Fb,h1,h2⟩:=h;exact ⟨(Ef,Fb),h1,h2⟩)
theorem Fin.EN {α0 α1:Type} {E1:α0→α1→Env} {I1:α0→α1→Ci} {C:α0→α1→Prop} (x0:α0) (x1:α1)  (hC:C x0 x1) (hs:C7 E (E1 x0 x1)) (hI:∀M w,I.h M w→(I1 x0 x1).h M w):
  Fin n E I (Exit.then (fun a w=>∃Ef Fb,C Ef Fb∧St n (E1 Ef Fb) (I1 Ef Fb) a w) Q) .normal:=fun _ _ hst=>⟨x0,x1,hC,hst.sub hs hI⟩
theorem Tr.Qn {α0 α1:Type} (K:Env) (hK:C7 E K) (F:α0→α1→Value→Env) (Ii:α0→α1→Value→Ci) (C:α0→α1→Prop) (μ:α0→α1→Nat) {c:Code} (Jy:α0) (Lt:α1) (dg:Value) (h0:C Jy Lt) (hs:C7 E (F Jy Lt dg)) (hI:∀M w,I.h M w→(Ii Jy Lt dg).h M w)
  (round:∀x0 x1 v0,C x0 x1→Tr L n (F x0 x1 v0++K) (Ii x0 x1 v0) c (Exit.then (fun a w=>∃Ef Fb SL,(C Ef Fb∧μ Ef Fb<μ x0 x1)∧St n (F Ef Fb SL++K) (Ii Ef Fb SL) a w) Q)):Tr L n E I (.loop c) Q:=
 Tr.MY K hK (fun y:α0×α1×Value=>F y.1 y.2.1 y.2.2) (fun y=>Ii y.1 y.2.1 y.2.2) (fun y=>C y.1 y.2.1) (fun y=>μ y.1 y.2.1) (Jy,Lt,dg) h0 hs hI fun y hy=>
  Tr.post (round y.1 y.2.1 y.2.2 hy) fun e a w h=>by
   cases e<;>first|exact h|(obtain ⟨Ef,Fb,SL,h1,h2⟩:=h;exact ⟨(Ef,Fb,SL),h1,h2⟩)
theorem Fin.Td {α0 α1:Type} {E1:α0→α1→Value→Env} {I1:α0→α1→Value→Ci} {C:α0→α1→Prop} (x0:α0) (x1:α1) (v0:Value) (hC:C x0 x1) (hs:C7 E (E1 x0 x1 v0)) (hI:∀M w,I.h M w→(I1 x0 x1 v0).h M w):
  Fin n E I (Exit.then (fun a w=>∃Ef Fb SL,C Ef Fb∧St n (E1 Ef Fb SL) (I1 Ef Fb SL) a w) Q) .normal:=fun _ _ hst=>⟨x0,x1,v0,hC,hst.sub hs hI⟩
theorem Tr.IK {α0 α1 α2:Type} (K:Env) (hK:C7 E K) (F:α0→α1→α2→Env) (Ii:α0→α1→α2→Ci) (C:α0→α1→α2→Prop) (μ:α0→α1→α2→Nat) {c:Code} (Jy:α0) (Lt:α1) (Te:α2)  (h0:C Jy Lt Te) (hs:C7 E (F Jy Lt Te)) (hI:∀M w,I.h M w→(Ii Jy Lt Te).h M w)
  (round:∀x0 x1 x2,C x0 x1 x2→Tr L n (F x0 x1 x2++K) (Ii x0 x1 x2) c (Exit.then (fun a w=>∃Ef Fb JD,(C Ef Fb JD∧μ Ef Fb JD<μ x0 x1 x2)∧St n (F Ef Fb JD++K) (Ii Ef Fb JD) a w) Q)):Tr L n E I (.loop c) Q:=
 Tr.MY K hK (fun y:α0×α1×α2=>F y.1 y.2.1 y.2.2) (fun y=>Ii y.1 y.2.1 y.2.2) (fun y=>C y.1 y.2.1 y.2.2) (fun y=>μ y.1 y.2.1 y.2.2) (Jy,Lt,Te) h0 hs hI fun y hy=>
  Tr.post (round y.1 y.2.1 y.2.2 hy) fun e a w h=>by
   cases e<;>first|exact h|(obtain ⟨Ef,Fb,JD,h1,h2⟩:=h;exact ⟨(Ef,Fb,JD),h1,h2⟩)
theorem Fin.D7 {α0 α1 α2:Type} {E1:α0→α1→α2→Env} {I1:α0→α1→α2→Ci} {C:α0→α1→α2→Prop} (x0:α0) (x1:α1) (x2:α2)  (hC:C x0 x1 x2) (hs:C7 E (E1 x0 x1 x2)) (hI:∀M w,I.h M w→(I1 x0 x1 x2).h M w):
  Fin n E I (Exit.then (fun a w=>∃Ef Fb JD,C Ef Fb JD∧St n (E1 Ef Fb JD) (I1 Ef Fb JD) a w) Q) .normal:=fun _ _ hst=>⟨x0,x1,x2,hC,hst.sub hs hI⟩
theorem Tr.G8 {α0 α1 α2:Type} (K:Env) (hK:C7 E K) (F:α0→α1→α2→Value→Env) (Ii:α0→α1→α2→Value→Ci) (C:α0→α1→α2→Prop) (μ:α0→α1→α2→Nat) {c:Code} (Jy:α0) (Lt:α1) (Te:α2) (dg:Value) (h0:C Jy Lt Te) (hs:C7 E (F Jy Lt Te dg)) (hI:∀M w,I.h M w→(Ii Jy Lt Te dg).h M w)
  (round:∀x0 x1 x2 v0,C x0 x1 x2→Tr L n (F x0 x1 x2 v0++K) (Ii x0 x1 x2 v0) c (Exit.then (fun a w=>∃Ef Fb JD SL,(C Ef Fb JD∧μ Ef Fb JD<μ x0 x1 x2)∧St n (F Ef Fb JD SL++K) (Ii Ef Fb JD SL) a w) Q)):Tr L n E I (.loop c) Q:=
 Tr.MY K hK (fun y:α0×α1×α2×Value=>F y.1 y.2.1 y.2.2.1 y.2.2.2) (fun y=>Ii y.1 y.2.1 y.2.2.1 y.2.2.2) (fun y=>C y.1 y.2.1 y.2.2.1) (fun y=>μ y.1 y.2.1 y.2.2.1) (Jy,Lt,Te,dg) h0 hs hI fun y hy=>
  Tr.post (round y.1 y.2.1 y.2.2.1 y.2.2.2 hy) fun e a w h=>by
   cases e<;>first|exact h|(obtain ⟨Ef,Fb,JD,SL,h1,h2⟩:=h;exact ⟨(Ef,Fb,JD,SL),h1,h2⟩)
theorem Fin.Fc {α0 α1 α2:Type} {E1:α0→α1→α2→Value→Env} {I1:α0→α1→α2→Value→Ci} {C:α0→α1→α2→Prop} (x0:α0) (x1:α1) (x2:α2) (v0:Value) (hC:C x0 x1 x2) (hs:C7 E (E1 x0 x1 x2 v0)) (hI:∀M w,I.h M w→(I1 x0 x1 x2 v0).h M w):
  Fin n E I (Exit.then (fun a w=>∃Ef Fb JD SL,C Ef Fb JD∧St n (E1 Ef Fb JD SL) (I1 Ef Fb JD SL) a w) Q) .normal:=fun _ _ hst=>⟨x0,x1,x2,v0,hC,hst.sub hs hI⟩
theorem Tr.Qo {α0 α1 α2 α3:Type} (K:Env) (hK:C7 E K) (F:α0→α1→α2→α3→Env) (Ii:α0→α1→α2→α3→Ci) (C:α0→α1→α2→α3→Prop) (μ:α0→α1→α2→α3→Nat) {c:Code} (Jy:α0) (Lt:α1) (Te:α2) (x3s:α3)  (h0:C Jy Lt Te x3s) (hs:C7 E (F Jy Lt Te x3s)) (hI:∀M w,I.h M w→(Ii Jy Lt Te x3s).h M w)
  (round:∀x0 x1 x2 x3,C x0 x1 x2 x3→Tr L n (F x0 x1 x2 x3++K) (Ii x0 x1 x2 x3) c (Exit.then (fun a w=>∃Ef Fb JD YO,(C Ef Fb JD YO∧μ Ef Fb JD YO<μ x0 x1 x2 x3)∧St n (F Ef Fb JD YO++K) (Ii Ef Fb JD YO) a w) Q)):Tr L n E I (.loop c) Q:=
 Tr.MY K hK (fun y:α0×α1×α2×α3=>F y.1 y.2.1 y.2.2.1 y.2.2.2) (fun y=>Ii y.1 y.2.1 y.2.2.1 y.2.2.2) (fun y=>C y.1 y.2.1 y.2.2.1 y.2.2.2) (fun y=>μ y.1 y.2.1 y.2.2.1 y.2.2.2) (Jy,Lt,Te,x3s) h0 hs hI fun y hy=>
  Tr.post (round y.1 y.2.1 y.2.2.1 y.2.2.2 hy) fun e a w h=>by
   cases e<;>first|exact h|(obtain ⟨Ef,Fb,JD,YO,h1,h2⟩:=h;exact ⟨(Ef,Fb,JD,YO),h1,h2⟩)
theorem Fin.E9 {α0 α1 α2 α3:Type} {E1:α0→α1→α2→α3→Env} {I1:α0→α1→α2→α3→Ci} {C:α0→α1→α2→α3→Prop} (x0:α0) (x1:α1) (x2:α2) (x3:α3)  (hC:C x0 x1 x2 x3) (hs:C7 E (E1 x0 x1 x2 x3)) (hI:∀M w,I.h M w→(I1 x0 x1 x2 x3).h M w):
  Fin n E I (Exit.then (fun a w=>∃Ef Fb JD YO,C Ef Fb JD YO∧St n (E1 Ef Fb JD YO) (I1 Ef Fb JD YO) a w) Q) .normal:=fun _ _ hst=>⟨x0,x1,x2,x3,hC,hst.sub hs hI⟩
end
structure DS where
 l:List Int
 at_:Nat
 h:at_≤l.length
 h2:l.length≤1000000000
def DS.val (s:DS) (n:Int):Int:=match s.l[s.at_]? with|some x=>x % n|none=>0
def DS.CW (s:DS):DS:=if h:s.at_<s.l.length then ⟨s.l,s.at_+1,h,s.h2⟩ else s
theorem DS.Dk (s:DS) {n:Int} (hn:1≤n):0≤s.val n∧s.val n<n:=by
 unfold DS.val
 split
 · exact ⟨Int.emod_nonneg _ (by omega),Int.emod_lt_of_pos _ (by omega)⟩
 · omega
theorem DS.Ym {s:DS} (h:s.l.length≤s.at_) (n:Int):s.val n=0:=by
 unfold DS.val;rw [List.getElem?_eq_none h]
theorem DS.Yn {s:DS} (h:s.l.length≤s.at_):s.CW=s:=by
 unfold DS.CW;rw [dif_neg (by omega)]
theorem DS.dh {s:DS} {x:Int} (h:s.l[s.at_]? =some x) (n:Int):s.val n=x % n:=by
 unfold DS.val;rw [h]
theorem DS.dj {s:DS} (h:s.at_<s.l.length):s.CW=⟨s.l,s.at_+1,h,s.h2⟩:=by
 unfold DS.CW;rw [dif_pos h]
def Kh (s:DS):List Pr:=[slice 1 (s.l.map fun n=>[int n]),int ((s.at_:Nat):Int)]
def Qp (T:TypeId) (b:Nat) (s:DS):BS:=AA true b T (Kh s)
def IL (T:TypeId) (b:Nat):BS:=Jx true b T (fun _:DS=>True) Kh
def DS.of (s:DS) (l:List Int):Int:=(l[(s.val l.length).toNat]?).getD 0
theorem DS.dm (s:DS) {l:List Int} (h:l≠[]):s.of l∈l:=by
 have h0:1≤(l.length:Int):=by
  have:=List.length_pos_iff.2 h
  omega
 have:=s.Dk h0
 unfold DS.of
 rw [List.getElem?_eq_getElem (by omega)]
 exact List.getElem_mem _
section
variable {P:Program} {L:Lg P} {n:Fm} {fz:Nat} {E:Env} {M0:Av} {w0:World} {S:Nat→Prop} {rs:List BS}
theorem Tr.Mk {Q:Exit→Act→World→Prop} {c:Code} (i:Nat) {T:TypeId} {b:Nat} (hi:rs[i]? =some (IL T b)) (k:∀s,Tr L n E (Hp M0 w0 S (rs.set i (Qp T b s))) c Q):Tr L n E (Hp M0 w0 S rs) c Q:=
 Tr.jc i hi fun s _=>k s
theorem Fin.Mk {Q:Exit→Act→World→Prop} {e:Exit} (i:Nat) {T:TypeId} {b:Nat} (hi:rs[i]? =some (IL T b)) (k:∀s,Fin n E (Hp M0 w0 S (rs.set i (Qp T b s))) Q e):Fin n E (Hp M0 w0 S rs) Q e:=by
 rintro a w ⟨M,h1,h2,h3,h4⟩
 have h4:Bl M0 w0 S rs M w:=h4
 obtain ⟨x,hx,hh⟩:=(h4.hold _ (List.mem_of_getElem? hi)).1
 exact k x a w ⟨M,h1,h2,h3,h4.Dr hi rfl rfl hh⟩
theorem Fin.DY {Q:Exit→Act→World→Prop} {e:Exit} (i:Nat) {T:TypeId} {b:Nat} (s:DS) {ps:List Pr} (hi:rs[i]? =some (AA true b T ps)) (hp:ps=Kh s) (k:Fin n E (Hp M0 w0 S (rs.set i (IL T b))) Q e):Fin n E (Hp M0 w0 S rs) Q e:=
 Fin.Kg i (fun _=>True) Kh s trivial hi hp k
theorem Tr.DY {Q:Exit→Act→World→Prop} {c:Code} (i:Nat) {T:TypeId} {b:Nat} (s:DS) {ps:List Pr} (hi:rs[i]? =some (AA true b T ps)) (hp:ps=Kh s) (k:Tr L n E (Hp M0 w0 S (rs.set i (IL T b))) c Q):Tr L n E (Hp M0 w0 S rs) c Q:=
 Tr.Kg i (fun _=>True) Kh s trivial hi hp k
theorem TO.iA {ops:Array Oper} {l:List Oper} {Q:Exit→Act→World→Prop} (s j:Nat) {v:Value} {f:Value→BS} (g:Nat→BS) (hs:E.lookup s=some (Ay v (Cp.ex fun b=>ptr b 0))) (hi:rs[j]? =some (f v)) (hf:∀b,f (.pointer (some ⟨b,0,none⟩))=g b)
  (k:∀b,TO P n ops l ((s,ptr b 0)::E) (Hp M0 w0 S (rs.set j (g b))) Q):TO P n ops l E (Hp M0 w0 S rs) Q:=by
 intro k0 hl a w hst
 obtain ⟨M,h1,h2,he,h4⟩:=hst
 obtain ⟨h5,b,h6⟩:=he s _ hs
 have hv:v= .pointer (some ⟨b,0,none⟩):=by rw [←h5];exact h6
 have hj:rs.set j (g b)=rs:=by
  have hjl:j<rs.length:=by rcases Nat.lt_or_ge j rs.length with h|h;exact h;rw [List.getElem?_eq_none h] at hi;cases hi
  rw [←hf b,←hv]
  rw [List.getElem?_eq_getElem hjl] at hi
  simp at hi
  rw [←hi,List.set_getElem_self]
 refine k b k0 hl a w ⟨M,h1,h2,?_,by rw [hj];exact h4⟩
 intro t q hq
 simp only [List.lookup] at hq
 by_cases ht:t=s
 · subst ht;simp at hq;subst hq;exact h6
 · rw [show (t==s)=false by simpa using ht] at hq;exact he t q hq
def JE (r:ResultVar) (a:Act):Sem Value:=match r with| .tmp t=>pure (a.tmps.getD t undef)| .cell c t=>do loadVar t (←asAddr (a.tmps.getD c undef))
def AL (P:Program) (E:Env) (rs:List BS) (r:ResultVar) (p:Pr):Prop:=∀(M:Av) (w:World) (a:Act),F_ M w E a→(∀q∈rs,q.h M w)→∃v,(JE r a).run P w= .ok v w∧p.h M w v
theorem AL.tmp {t:Tmp} {q p:Pr} (h:E.lookup t=some q) (hl:Pr.le q p):AL P E rs (.tmp t) p:=fun _ _ _ he _=>⟨_,rfl,hl _ _ _ (he _ _ h)⟩
theorem AL.cell (i:Nat) {c:Tmp} {t T:TypeId} {b m:Nat} {new:Bool} {ps:List Pr} {p:Pr} (h:E.lookup c=some (ptr b 0)) (hi:rs[i]? =some (AA new b T ps)) (ht:FO P t=true) (hz:Aw P t=some m) (hm:ps.length=m) (hl:Pr.le (agg ps) p):AL P E rs (.cell c t) p:=by
 intro M w a he hr
 obtain ⟨v,h1,h2⟩:=Vy ht hz hm (hr _ (List.mem_of_getElem? hi))
 refine ⟨v,?_,hl _ _ _ h2⟩
 have hc:a.tmps.getD c undef= .pointer (some ⟨b,0,none⟩):=he _ _ h
 unfold JE
 simp only [hc,asAddr]
 simpa [Sem.run_bind] using h1
theorem HP (g:Func) (a:Act):results g a.tmps=(do let vs ←g.results.mapM (fun r=>JE r a);pure (if h:vs.size=1 then vs[0] else .tuple vs)):=by
 have:(fun r:ResultVar=>JE r a)=(fun| .tmp t=>pure (a.tmps.getD t undef)| .cell c t=>do loadVar t (←asAddr (a.tmps.getD c undef))):=by
  funext r;cases r<;>rfl
 rw [this];rfl
theorem results1 {g:Func} {r:ResultVar} {a:Act} {w:World} {v:Value} (hr:g.results= #[r]) (h:(JE r a).run P w= .ok v w):(results g a.tmps).run P w= .ok v w:=by
 rw [HP,hr];simp [Sem.run_bind,h]
theorem results2 {g:Func} {r r':ResultVar} {a:Act} {w:World} {v v':Value} (hr:g.results= #[r,r']) (h:(JE r a).run P w= .ok v w) (h':(JE r' a).run P w= .ok v' w):(results g a.tmps).run P w= .ok (.tuple #[v,v']) w:=by
 rw [HP,hr];simp [Sem.run_bind,h,h']
theorem results3 {g:Func} {r r' r'':ResultVar} {a:Act} {w:World} {v v' v'':Value} (hr:g.results= #[r,r',r'']) (h:(JE r a).run P w= .ok v w) (h':(JE r' a).run P w= .ok v' w) (h'':(JE r'' a).run P w= .ok v'' w):(results g a.tmps).run P w= .ok (.tuple #[v,v',v'']) w:=by
 rw [HP,hr];simp [Sem.run_bind,h,h',h'']
theorem Bl.O9 {M:Av} {w:World}:∀{pre:List BS},Bl M0 w0 S (pre++rs) M w→Bl M0 w0 S rs M w
 |[],h=>h
 |_::_,h=>Bl.O9 h.LF
variable {g:Func} {M1:Av} {w1:World}
theorem Fin.CG {r:ResultVar} {p q:Pr} (hr:g.results= #[r]) (h:AL P E rs r q) (hl:Pr.le q p):Fin ⟨fz,[]⟩ E (Hp M0 w0 Jp rs) (bodyPost P g (Nt M0 w0 p)) .ret:=by
 rintro a w ⟨M,_,hd,he,hi⟩
 obtain ⟨v,hv,hp⟩:=h M w a he (fun q hq=>(hi.hold q hq).1)
 obtain ⟨h1,h2⟩:=Ct.F5 M0 w0 M w hi
 exact ⟨hd,v,results1 hr hv,_,rfl,p.st _ _ _ _ _ (Ext.less h1) (hl _ _ _ hp),h2⟩
theorem Fin.DK {r r':ResultVar} {p q q':Pr} (hr:g.results= #[r,r']) (h:AL P E rs r q) (h':AL P E rs r' q') (hl:Pr.le (Eu [q,q']) p):Fin ⟨fz,[]⟩ E (Hp M0 w0 Jp rs) (bodyPost P g (Nt M0 w0 p)) .ret:=by
 rintro a w ⟨M,_,hd,he,hi⟩
 obtain ⟨v,hv,hp⟩:=h M w a he (fun q hq=>(hi.hold q hq).1)
 obtain ⟨v',dn,Jq⟩:=h' M w a he (fun q hq=>(hi.hold q hq).1)
 obtain ⟨h1,h2⟩:=Ct.F5 M0 w0 M w hi
 exact ⟨hd,_,results2 hr hv dn,_,rfl,p.st _ _ _ _ _ (Ext.less h1) (hl _ _ _ ⟨[_,_],rfl,hp,Jq,trivial⟩),h2⟩
theorem Fin.Cf {r r' r'':ResultVar} {p q q' jJ:Pr} (hr:g.results= #[r,r',r'']) (h:AL P E rs r q) (h':AL P E rs r' q') (h'':AL P E rs r'' jJ) (hl:Pr.le (Eu [q,q',jJ]) p):Fin ⟨fz,[]⟩ E (Hp M0 w0 Jp rs) (bodyPost P g (Nt M0 w0 p)) .ret:=by
 rintro a w ⟨M,_,hd,he,hi⟩
 obtain ⟨v,hv,hp⟩:=h M w a he (fun q hq=>(hi.hold q hq).1)
 obtain ⟨v',dn,Jq⟩:=h' M w a he (fun q hq=>(hi.hold q hq).1)
 obtain ⟨v'',pz,p_⟩:=h'' M w a he (fun q hq=>(hi.hold q hq).1)
 obtain ⟨h1,h2⟩:=Ct.F5 M0 w0 M w hi
 exact ⟨hd,_,results3 hr hv dn pz,_,rfl,p.st _ _ _ _ _ (Ext.less h1) (hl _ _ _ ⟨[_,_,_],rfl,hp,Jq,p_,trivial⟩),h2⟩
theorem Fin.Ds (pre:List BS) {r:ResultVar} {R:BS} {R':Value→BS} {p q:Pr} (hr:g.results= #[r]) (h:AL P E (pre++R::Bc M1 w1::rs) r q) (hl:Pr.le q p) (hR:∀M w v,q.h M w v→R' v=R):
  Fin ⟨fz,[]⟩ E (Hp M0 w0 S (pre++R::Bc M1 w1::rs)) (bodyPost P g (Mg M0 w0 S rs M1 w1 p R')) .ret:=by
 rintro a w ⟨M,_,hd,he,hi⟩
 obtain ⟨v,hv,hp⟩:=h M w a he (fun q hq=>(hi.hold q hq).1)
 obtain ⟨h1,h2⟩:=Vx (Bl.O9 hi)
 exact ⟨hd,v,results1 hr hv,_,M,rfl,hl _ _ _ hp,h1,by rw [hR _ _ _ hp];exact h2⟩
theorem Fin.JF (pre:List BS) {r r':ResultVar} {R:BS} {p q q':Pr} (hr:g.results= #[r,r']) (h:AL P E (pre++R::Bc M1 w1::rs) r q) (h':AL P E (pre++R::Bc M1 w1::rs) r' q') (hl:Pr.le (Eu [q,q']) p):
  Fin ⟨fz,[]⟩ E (Hp M0 w0 S (pre++R::Bc M1 w1::rs)) (bodyPost P g (Mg M0 w0 S rs M1 w1 p (fun _=>R))) .ret:=by
 rintro a w ⟨M,_,hd,he,hi⟩
 obtain ⟨v,hv,hp⟩:=h M w a he (fun q hq=>(hi.hold q hq).1)
 obtain ⟨v',dn,Jq⟩:=h' M w a he (fun q hq=>(hi.hold q hq).1)
 obtain ⟨h1,h2⟩:=Vx (Bl.O9 hi)
 exact ⟨hd,_,results2 hr hv dn,_,M,rfl,hl _ _ _ ⟨[_,_],rfl,hp,Jq,trivial⟩,h1,h2⟩
theorem A5 {α:Type} {p:α→Pr} {q:Pr} (x:α) (h:Pr.le q (p x)):Pr.le q (Cp.ex p):=fun M w v hv=>⟨x,h M w v hv⟩
theorem A2 {φ:Prop} {p q:Pr} (hφ:φ) (h:Pr.le q p):Pr.le q (fact φ p):=fun M w v hv=>⟨hφ,h M w v hv⟩
end
section
variable {P:Program} {L:Lg P} {n:Fm} {fz:Nat} {E:Env} {M0:Av} {w0:World} {S:Nat→Prop} {rs:List SR} {o:Oper}
theorem Cb {t:TypeId} {x:Operand} {q:Tmp} {j:Nat} {new:Bool} {b off:Nat} {T:TypeId} {ps:List Pr} {p:Pr} [One p] (hg:o.guard=none) (hd:o.dst=none) (ho:o.op= .store t x (.tmp q)) (hx:VL E x (ptr b off)) (hy:E.lookup q=some p)
  (hz:Aw P t=some 1) (hl:off+1≤ps.length):E6 P M0 w0 S n j (SR.c (AA new b T ps)) ⟨q,fun v=>AA new b T (ps.take off++[Ay v p]++ps.drop (off+1))⟩ o E any:=by
 refine ⟨hg,fun M w a rs hsz he hI hj=> ?_⟩
 have h1:a.eval x= .pointer (some ⟨b,off,none⟩):=hx.ev he (by simp [ho,Op.operands])
 have hv:VL E (.tmp q) p:=⟨_,hy,Pr.le_refl _⟩
 have hp:=hv.ev he (show (Operand.tmp q)∈o.op.operands.toList by simp [ho,Op.operands])
 obtain ⟨h2,h3⟩:=(VL.le hv (AU p)).ev he (show (Operand.tmp q)∈o.op.operands.toList by simp [ho,Op.operands])
 obtain ⟨⟨_,cs,h4,h5,h6⟩,_⟩:=hI.hold _ (List.mem_of_getElem? hj)
 have YN:=h5.length
 have bg:=h2.length
 have hone:(a.eval (.tmp q)).cells= #[a.eval (.tmp q)]:=(One.one (p:=p) M w _ hp).1
 have h2':HL M w [Ay (a.eval (.tmp q)) p] (a.eval (.tmp q)).cells.toList:=by rw [hone];exact ⟨⟨rfl,hp⟩,trivial⟩
 have hcells:(a.eval (.tmp q)).cells.size=1:=by rw [hone];rfl
 have hrun:(storeCells ⟨b,off,none⟩ (a.eval (.tmp q)).cells.toList 0).run P w= .ok () (w.setRow b (cs.take off++(a.eval (.tmp q)).cells.toList++cs.drop (off+1)).toArray):=by
  have:=run_storeCells_at (P:=P) b off T (a.eval (.tmp q)).cells.toList 0 cs.toArray w h4 (by simp [hcells];omega) h3
  simpa [hcells] using this
 have DT:(execOp a.eval o).run P w= .ok .skip (w.setRow b (cs.take off++(a.eval (.tmp q)).cells.toList++cs.drop (off+1)).toArray):=by
  simp [execOp,ho,h1,Instr.storeAt,Instr.sureAddr,storeVar,Bm hz,hcells,hrun]
 rw [DT]
 obtain ⟨h7, h8⟩ := Bl.write (qs := ps.take off ++ [Ay (a.eval (.tmp q)) p] ++ ps.drop (off + 1)) (cs := cs.take off ++ (a.eval (.tmp q)).cells.toList ++ cs.drop (off + 1)) hI hj ((((h5.take off).app h2')).app (h5.drop (off + 1)))
  (fun c hc=>by
   simp only [List.mem_append] at hc
   rcases hc with (hc|hc)|hc
   · exact h6 c (List.mem_of_mem_take hc)
   · exact h3 c hc
   · exact h6 c (List.mem_of_mem_drop hc))
 refine ⟨M,trivial,h8,?_⟩
 have hput:SR.at_ (a.put o.dst undef) ⟨q,fun v=>AA new b T (ps.take off++[Ay v p]++ps.drop (off+1))⟩=AA new b T (ps.take off++[Ay (a.eval (.tmp q)) p]++ps.drop (off+1)):=by rw [hd];rfl
 rw [hput];exact h7
theorem O_ {j s:Nat} {f:Value→BS} (hR:rs[j]? =some ⟨s,f⟩) (a:Act):(rs.set j (SR.c (f (a.tmps.getD s undef)))).map (·.at_ a)=rs.map (·.at_ a):=by
 rw [List.map_set]
 apply List.ext_getElem?
 intro i
 rw [List.getElem?_set]
 by_cases hij:j=i
 ·
  subst hij
  rw [if_pos rfl]
  split
  · rw [List.getElem?_map,hR];rfl
  ·
   rename_i hge
   rw [List.getElem?_eq_none (by omega)]
 · rw [if_neg hij]
theorem A9.Hu {Q:Exit→Act→World→Prop} (j i s:Nat) {f g:Value→BS} {p:Pr} (hR:rs[j]? =some ⟨s,f⟩) (hR':rs[i]? =some ⟨s,g⟩) (hij:j≠i) (hs:E.lookup s=some p) (k:∀v,A9 n M0 w0 S ((s,Ay v p)::E) ((rs.set j (SR.c (f v))).set i (SR.c (g v))) Q):A9 n M0 w0 S E rs Q:=by
 rintro a w ⟨M,h1,h2,h3,h4⟩
 refine k (a.tmps.getD s undef) a w ⟨M,h1,h2,?_,?_⟩
 ·
  intro t q hq
  simp only [List.lookup] at hq
  by_cases ht:t=s
  · subst ht;simp only [beq_self_eq_true,Option.some.injEq] at hq;subst hq;exact ⟨rfl,h3 t p hs⟩
  · rw [show (t==s)=false by simpa using ht] at hq;exact h3 t q hq
 · rw [O_ (rs:=rs.set j (SR.c (f (a.tmps.getD s undef)))) (j:=i) (s:=s) (f:=g) (by rw [List.getElem?_set,if_neg hij];exact hR') a,O_ hR a];exact h4
end
section
variable {P:Program} {L:Lg P} {n:Fm} {fz:Nat} {E:Env} {M0:Av} {w0:World} {S:Nat→Prop} {rs:List BS}
theorem St.GQ (j:Nat) {new:Bool} {b:Nat} {T:TypeId} {ps qs:List Pr} (hi:rs[j]? =some (AA new b T ps)) (h:O7 ps qs) {a:Act} {w:World} (hs:St n E (Hp M0 w0 S rs) a w):St n E (Hp M0 w0 S (rs.set j (AA new b T qs))) a w:=by
 obtain ⟨M,h1,h2,h3,h4⟩:=hs
 have h4:Bl M0 w0 S rs M w:=h4
 obtain ⟨h5,cs,h6,h7,h8⟩:=(h4.hold _ (List.mem_of_getElem? hi)).1
 exact ⟨M,h1,h2,h3,h4.Dr hi rfl rfl ⟨h5,cs,h6,h.hl h7,h8⟩⟩
theorem Tr.GQ {Q:Exit→Act→World→Prop} {c:Code} (j:Nat) {new:Bool} {b:Nat} {T:TypeId} {ps:List Pr} (qs:List Pr) (hi:rs[j]? =some (AA new b T ps)) (h:O7 ps qs) (k:Tr L n E (Hp M0 w0 S (rs.set j (AA new b T qs))) c Q):Tr L n E (Hp M0 w0 S rs) c Q:=
 Tr.conv (fun _ _ hs=>hs.GQ j hi h) k
theorem Fin.GQ {Q:Exit→Act→World→Prop} {e:Exit} (j:Nat) {new:Bool} {b:Nat} {T:TypeId} {ps:List Pr} (qs:List Pr) (hi:rs[j]? =some (AA new b T ps)) (h:O7 ps qs) (k:Fin n E (Hp M0 w0 S (rs.set j (AA new b T qs))) Q e):Fin n E (Hp M0 w0 S rs) Q e:=
 Fin.conv (fun _ _ hs=>hs.GQ j hi h) k
end
section
variable {P:Program} {L:Lg P} {n:Fm} {fz:Nat} {E:Env} {M0:Av} {w0:World} {S:Nat→Prop} {rs:List BS}
theorem AH {I:Ci} {o:Oper} {t e:TypeId} {x y:Operand} {k:IntKind} {i:Int} {len cap sz b off:Nat} (ho:o.op= .indexAddr t x y) (ht:P.underlying t=some (.slice e)) (hz:Aw P e=some sz) (hx:VL E x (is (.slice (some ⟨b,off,none⟩) len cap))) (hy:VL E y (is (.int k i)))
  (h0:0≤i) (hl:i<len):Af P I o E (ptr b (off+i.toNat*sz)):=
 Af.same fun M w a he _=>by
  have h1:a.eval x=_:=hx.ev he (by simp [ho,Op.operands])
  have h5:a.eval y= .int k i:=hy.ev he (by simp [ho,Op.operands])
  refine ⟨_,?_,rfl⟩
  simp [execOp,ho,h1,h5,Instr.indexAt,asIntOf,run_underlying ht,Bm hz,h0,hl,Cv]
theorem Tr.perm {Q:Exit→Act→World→Prop} {c:Code} {rs':List BS} (hp:rs.Perm rs') (k:Tr L n E (Hp M0 w0 S rs') c Q):Tr L n E (Hp M0 w0 S rs) c Q:=
 Tr.conv (fun _ _ ⟨M,h1,h2,h3,h4⟩=>⟨M,h1,h2,h3,Bl.perm hp h4⟩) k
theorem Fin.perm {Q:Exit→Act→World→Prop} {ex:Exit} {rs':List BS} (hp:rs.Perm rs') (k:Fin n E (Hp M0 w0 S rs') Q ex):Fin n E (Hp M0 w0 S rs) Q ex:=
 Fin.conv (fun _ _ ⟨M,h1,h2,h3,h4⟩=>⟨M,h1,h2,h3,Bl.perm hp h4⟩) k
theorem Bl.PB {b:Nat} {T:TypeId} {ps:List Pr} {M:Av} {w:World} (h4:Bl M0 w0 S (AA true b T ps::rs) M w):∃M',Bl M0 w0 S rs M' w∧Ext M w M' w∧Row M' w ⟨b,0,none⟩ 0 ps:=by
 obtain ⟨⟨hm,cs,hh,hc,hone⟩,bf⟩:=h4.hold _ (List.mem_cons_self ..)
 obtain ⟨hlt,hnew⟩:=bf b rfl
 have hnew:w0.heap.size≤b:=by simpa [AA] using hnew
 have he:Ext M w (fun b' o=>M b' o∧b'≠b) w:=Ext.less fun _ _ h=>h.1
 obtain ⟨qA,qB⟩:=List.pairwise_cons.1 h4.nd
 refine ⟨fun b' o=>M b' o∧b'≠b,⟨h4.m0,fun b' o' hm'=>⟨h4.m b' o' hm',fun e=> ?_⟩,h4.os,h4.tape,h4.output,h4.size,h4.block,fun b' o' hm'=>h4.bd b' o' hm'.1,fun r hr=> ?_,qB⟩,he,fun j p hp=> ?_⟩
 ·
  subst e
  have:=h4.m0 _ _ hm'
  omega
 ·
  obtain ⟨h5,h6⟩:=h4.hold r (List.mem_cons_of_mem _ hr)
  exact ⟨r.st _ _ _ _ he (fun b' hb'=>⟨rfl,fun o' hmo=>⟨hmo,fun e=>qA r hr b rfl (by rw [←e];exact hb')⟩⟩) h5,h6⟩
 ·
  obtain ⟨u,hu,dP⟩:=hc.at_ j p hp
  refine ⟨u,?_,fun hx=>hx.2 rfl,hone u (List.mem_of_getElem? hu),p.st _ _ _ _ _ he dP⟩
  rw [show Addr.add ⟨b,0,none⟩ (0+j)=⟨b,j,none⟩ by unfold Addr.add;split<;>simp_all]
  simp [World.cell?,hh,hu]
end
end Cp
namespace Go.Proofs.YtppeeogffbpcbaaGreat
open Go Cp
theorem mixed:Tryz.prog.follows .mixedOrders=true:=by kernel_rfl
theorem sz1:Aw Tryz.prog 1=some 1:=by kernel_rfl
theorem z1:Bn Tryz.prog 1=some [.nilFunc]:=by kernel_rfl
theorem sz2:Aw Tryz.prog 2=some 1:=by kernel_rfl
theorem z2:Bn Tryz.prog 2=some [.int .i64 0]:=by kernel_rfl
theorem Cg:Aw Tryz.prog 3=some 1:=by kernel_rfl
theorem Ce:Ed Tryz.prog 3=true:=by kernel_rfl
theorem UT:Cm Tryz.prog 3=some 8:=by kernel_rfl
theorem iB:([.int .i64 0]:List Value).all (·.oneCell')=true:=by kernel_rfl
theorem z3:Bn Tryz.prog 3=some [.int .i64 0]:=by kernel_rfl
theorem sz4:Aw Tryz.prog 4=some 1:=by kernel_rfl
theorem qC:Ed Tryz.prog 4=true:=by kernel_rfl
theorem z4:Bn Tryz.prog 4=some [.bool false]:=by kernel_rfl
theorem Jz:Aw Tryz.prog 5=some 1:=by kernel_rfl
theorem ji:Ed Tryz.prog 5=true:=by kernel_rfl
theorem Tf:Cm Tryz.prog 5=some 1:=by kernel_rfl
theorem zo5:([.int .u8 0]:List Value).all (·.oneCell')=true:=by kernel_rfl
theorem z5:Bn Tryz.prog 5=some [.int .u8 0]:=by kernel_rfl
theorem z6:Bn Tryz.prog 6=some [.int .u8 0]:=by kernel_rfl
theorem JB:Aw Tryz.prog 9=some 1:=by kernel_rfl
theorem HQ:Ed Tryz.prog 9=true:=by kernel_rfl
theorem by9:Cm Tryz.prog 9=some 16:=by kernel_rfl
theorem zo9:([.string (ByteArray.mk #[])]:List Value).all (·.oneCell')=true:=by kernel_rfl
theorem z9:Bn Tryz.prog 9=some [.string (ByteArray.mk #[])]:=by kernel_rfl
theorem z12:Bn Tryz.prog 12=some [.int .u64 0]:=by kernel_rfl
theorem z13:Bn Tryz.prog 13=some [.string (ByteArray.mk #[]),.int .u64 0]:=by kernel_rfl
theorem z18:Bn Tryz.prog 18=some [.pointer none]:=by kernel_rfl
theorem z20:Bn Tryz.prog 20=some [.nilIface]:=by kernel_rfl
theorem GU:Aw Tryz.prog 22=some 1:=by kernel_rfl
theorem Qq:Ed Tryz.prog 22=true:=by kernel_rfl
theorem z22:Bn Tryz.prog 22=some [.slice none 0 0]:=by kernel_rfl
theorem C3:Aw Tryz.prog 24=some 2:=by kernel_rfl
theorem CM:FO Tryz.prog 24=true:=by kernel_rfl
theorem Ny:∀ps,Tryz.prog.built 24 ps=Instr.fill (fun i=>(#[(0,1),(1,1)]:Array (Nat×Nat))[i]?) ((List.replicate 2 (.int .i64 0)):List Value).toArray ps:=by intro ps;kernel_rfl
theorem DZ:((List.replicate 2 (.int .i64 0)):List Value).all (·.oneCell')=true:=by kernel_rfl
theorem z24:Bn Tryz.prog 24=some (List.replicate 2 (.int .i64 0)):=by kernel_rfl
theorem dw:Ag Tryz.prog 24 0=some 0:=by kernel_rfl
theorem dx:Ag Tryz.prog 24 1=some 1:=by kernel_rfl
theorem jj:Aw Tryz.prog 25=some 1:=by kernel_rfl
theorem jk:Ed Tryz.prog 25=true:=by kernel_rfl
theorem Be:Aw Tryz.prog 27=some 4:=by kernel_rfl
theorem Ew:FO Tryz.prog 27=true:=by kernel_rfl
theorem Nz:Cm Tryz.prog 27=some 48:=by kernel_rfl
theorem jl:∀ps,Tryz.prog.built 27 ps=Instr.fill (fun i=>(#[(0,2),(2,1),(3,1)]:Array (Nat×Nat))[i]?) ([.int .i64 0,.int .i64 0,.int .i64 0,.slice none 0 0]:List Value).toArray ps:=by intro ps;kernel_rfl
theorem IB:([.int .i64 0,.int .i64 0,.int .i64 0,.slice none 0 0]:List Value).all (·.oneCell')=true:=by kernel_rfl
theorem JG:Bn Tryz.prog 27=some [.int .i64 0,.int .i64 0,.int .i64 0,.slice none 0 0]:=by kernel_rfl
theorem dy:Ag Tryz.prog 27 0=some 0:=by kernel_rfl
theorem dz:Ag Tryz.prog 27 1=some 2:=by kernel_rfl
theorem V2:Ag Tryz.prog 27 2=some 3:=by kernel_rfl
theorem CK:Aw Tryz.prog 29=some 8:=by kernel_rfl
theorem CC:FO Tryz.prog 29=true:=by kernel_rfl
theorem d_:∀ps,Tryz.prog.built 29 ps=Instr.fill (fun i=>(#[(0,1),(1,1),(2,1),(3,1),(4,4)]:Array (Nat×Nat))[i]?) ([.int .i64 0,.int .i64 0,.int .i64 0,.int .i64 0,.int .i64 0,.int .i64 0,.int .i64 0,.slice none 0 0]:List Value).toArray ps:=by intro ps;kernel_rfl
theorem JV:([.int .i64 0,.int .i64 0,.int .i64 0,.int .i64 0,.int .i64 0,.int .i64 0,.int .i64 0,.slice none 0 0]:List Value).all (·.oneCell')=true:=by kernel_rfl
theorem z29:Bn Tryz.prog 29=some [.int .i64 0,.int .i64 0,.int .i64 0,.int .i64 0,.int .i64 0,.int .i64 0,.int .i64 0,.slice none 0 0]:=by kernel_rfl
theorem eA:Ag Tryz.prog 29 0=some 0:=by kernel_rfl
theorem GD:Ag Tryz.prog 29 1=some 1:=by kernel_rfl
theorem HR:Ag Tryz.prog 29 2=some 2:=by kernel_rfl
theorem JW:Ag Tryz.prog 29 3=some 3:=by kernel_rfl
theorem PC:Ag Tryz.prog 29 4=some 4:=by kernel_rfl
theorem N0:Aw Tryz.prog 30=some 1:=by kernel_rfl
theorem bw:Ed Tryz.prog 30=true:=by kernel_rfl
theorem z31:Bn Tryz.prog 31=some [.string (ByteArray.mk #[]),.int .i64 0,.int .i64 0,.slice none 0 0,.bool false,.slice none 0 0,.slice none 0 0,.slice none 0 0,.bool false]:=by kernel_rfl
theorem BI:Aw Tryz.prog 32=some 9:=by kernel_rfl
theorem Bh:FO Tryz.prog 32=true:=by kernel_rfl
theorem PD:Cm Tryz.prog 32=some 144:=by kernel_rfl
theorem Yo:∀ps,Tryz.prog.built 32 ps=Instr.fill (fun i=>(#[(0,1),(1,1),(2,1),(3,1),(4,1),(5,1),(6,1),(7,1),(8,1)]:Array (Nat×Nat))[i]?) ([.string (ByteArray.mk #[]),.int .i64 0,.int .i64 0,.slice none 0 0,.bool false,.slice none 0 0,.slice none 0 0,.slice none 0 0,.bool false]:List Value).toArray ps:=by intro ps;kernel_rfl
theorem Dl:([.string (ByteArray.mk #[]),.int .i64 0,.int .i64 0,.slice none 0 0,.bool false,.slice none 0 0,.slice none 0 0,.slice none 0 0,.bool false]:List Value).all (·.oneCell')=true:=by kernel_rfl
theorem z32:Bn Tryz.prog 32=some [.string (ByteArray.mk #[]),.int .i64 0,.int .i64 0,.slice none 0 0,.bool false,.slice none 0 0,.slice none 0 0,.slice none 0 0,.bool false]:=by kernel_rfl
theorem eB:Ag Tryz.prog 32 0=some 0:=by kernel_rfl
theorem eC:Ag Tryz.prog 32 1=some 1:=by kernel_rfl
theorem V3:Ag Tryz.prog 32 2=some 2:=by kernel_rfl
theorem FQ:Ag Tryz.prog 32 3=some 3:=by kernel_rfl
theorem eD:Ag Tryz.prog 32 4=some 4:=by kernel_rfl
theorem FR:Ag Tryz.prog 32 5=some 5:=by kernel_rfl
theorem IM:Ag Tryz.prog 32 6=some 6:=by kernel_rfl
theorem JX:Ag Tryz.prog 32 7=some 7:=by kernel_rfl
theorem eE:Ag Tryz.prog 32 8=some 8:=by kernel_rfl
theorem PF:Aw Tryz.prog 37=some 1:=by kernel_rfl
theorem OI:Ed Tryz.prog 37=true:=by kernel_rfl
theorem jm:Aw Tryz.prog 38=some 1:=by kernel_rfl
theorem V4:Ed Tryz.prog 38=true:=by kernel_rfl
theorem jo:Aw Tryz.prog 39=some 1:=by kernel_rfl
theorem bz:Ed Tryz.prog 39=true:=by kernel_rfl
theorem PG:Aw Tryz.prog 41=some 3:=by kernel_rfl
theorem OJ:FO Tryz.prog 41=true:=by kernel_rfl
theorem eF:((List.replicate 3 (.slice none 0 0)):List Value).all (·.oneCell')=true:=by kernel_rfl
theorem z41:Bn Tryz.prog 41=some (List.replicate 3 (.slice none 0 0)):=by kernel_rfl
theorem IP:Ag Tryz.prog 41 0=some 0:=by kernel_rfl
theorem Ml:Ag Tryz.prog 41 1=some 1:=by kernel_rfl
theorem PI:Ag Tryz.prog 41 2=some 2:=by kernel_rfl
theorem Vg:Bn Tryz.prog 54=some [.nilFunc]:=by kernel_rfl
theorem jq:Ed Tryz.prog 66=true:=by kernel_rfl
theorem jr:Aw Tryz.prog 74=some 1:=by kernel_rfl
theorem jt:Ed Tryz.prog 74=true:=by kernel_rfl
theorem eG:Aw Tryz.prog 80=some 2:=by kernel_rfl
theorem qE:Cm Tryz.prog 80=some 16:=by kernel_rfl
theorem ju:∀ps,Tryz.prog.built 80 ps=Instr.fill (fun i=>(#[(0,1),(1,1)]:Array (Nat×Nat))[i]?) ((List.replicate 2 (.int .i64 0)):List Value).toArray ps:=by intro ps;kernel_rfl
theorem jv:((List.replicate 2 (.int .i64 0)):List Value).all (·.oneCell')=true:=by kernel_rfl
theorem z80:Bn Tryz.prog 80=some (List.replicate 2 (.int .i64 0)):=by kernel_rfl
theorem Br:Aw Tryz.prog 82=some 10:=by kernel_rfl
theorem Bo:FO Tryz.prog 82=true:=by kernel_rfl
theorem qF:∀ps,Tryz.prog.built 82 ps=Instr.fill (fun i=>(#[(0,9),(9,1)]:Array (Nat×Nat))[i]?) ([.string (ByteArray.mk #[]),.int .i64 0,.int .i64 0,.slice none 0 0,.bool false,.slice none 0 0,.slice none 0 0,.slice none 0 0,.bool false,.slice none 0 0]:List Value).toArray ps:=by intro ps;kernel_rfl
theorem Eb:([.string (ByteArray.mk #[]),.int .i64 0,.int .i64 0,.slice none 0 0,.bool false,.slice none 0 0,.slice none 0 0,.slice none 0 0,.bool false,.slice none 0 0]:List Value).all (·.oneCell')=true:=by kernel_rfl
theorem JH:Bn Tryz.prog 82=some [.string (ByteArray.mk #[]),.int .i64 0,.int .i64 0,.slice none 0 0,.bool false,.slice none 0 0,.slice none 0 0,.slice none 0 0,.bool false,.slice none 0 0]:=by kernel_rfl
theorem V5:Ag Tryz.prog 82 0=some 0:=by kernel_rfl
theorem JY:Ag Tryz.prog 82 1=some 9:=by kernel_rfl
theorem qG:Aw Tryz.prog 92=some 1:=by kernel_rfl
theorem jw:Ed Tryz.prog 92=true:=by kernel_rfl
theorem AW:Aw Tryz.prog 96=some 11:=by kernel_rfl
theorem BD:FO Tryz.prog 96=true:=by kernel_rfl
theorem HS:Cm Tryz.prog 96=some 112:=by kernel_rfl
theorem eI:∀ps,Tryz.prog.built 96 ps=Instr.fill (fun i=>(#[(0,1),(1,1),(2,1),(3,1),(4,1),(5,1),(6,1),(7,2),(9,1),(10,1)]:Array (Nat×Nat))[i]?) ([.int .i64 0,.string (ByteArray.mk #[]),.int .i64 0,.int .i64 0,.int .i64 0,.int .i64 0,.string (ByteArray.mk #[]),.int .i64 0,.int .i64 0,.int .i64 0,.string (ByteArray.mk #[])]:List Value).toArray ps:=by intro ps;kernel_rfl
theorem Lc:([.int .i64 0,.string (ByteArray.mk #[]),.int .i64 0,.int .i64 0,.int .i64 0,.int .i64 0,.string (ByteArray.mk #[]),.int .i64 0,.int .i64 0,.int .i64 0,.string (ByteArray.mk #[])]:List Value).all (·.oneCell')=true:=by kernel_rfl
theorem G2:Bn Tryz.prog 96=some [.int .i64 0,.string (ByteArray.mk #[]),.int .i64 0,.int .i64 0,.int .i64 0,.int .i64 0,.string (ByteArray.mk #[]),.int .i64 0,.int .i64 0,.int .i64 0,.string (ByteArray.mk #[])]:=by kernel_rfl
theorem V6:Ag Tryz.prog 96 0=some 0:=by kernel_rfl
theorem V7:Ag Tryz.prog 96 1=some 1:=by kernel_rfl
theorem V8:Ag Tryz.prog 96 2=some 2:=by kernel_rfl
theorem V9:Ag Tryz.prog 96 3=some 3:=by kernel_rfl
theorem V_:Ag Tryz.prog 96 4=some 4:=by kernel_rfl
theorem SM:Ag Tryz.prog 96 5=some 5:=by kernel_rfl
theorem WA:Ag Tryz.prog 96 6=some 6:=by kernel_rfl
theorem SN:Ag Tryz.prog 96 7=some 7:=by kernel_rfl
theorem PJ:Ag Tryz.prog 96 8=some 9:=by kernel_rfl
theorem WB:Ag Tryz.prog 96 9=some 10:=by kernel_rfl
theorem jx:∀ps,Tryz.prog.built 101 ps=Instr.fill (fun i=>(#[(0,1),(1,1)]:Array (Nat×Nat))[i]?) ([.slice none 0 0,.int .i64 0]:List Value).toArray ps:=by intro ps;kernel_rfl
theorem jy:([.slice none 0 0,.int .i64 0]:List Value).all (·.oneCell')=true:=by kernel_rfl
theorem Yp:Ag Tryz.prog 101 0=some 0:=by kernel_rfl
theorem Yq:Ag Tryz.prog 101 1=some 1:=by kernel_rfl
theorem jz:Aw Tryz.prog 105=some 1:=by kernel_rfl
theorem WC:Ed Tryz.prog 105=true:=by kernel_rfl
theorem LI:Aw Tryz.prog 107=some 5:=by kernel_rfl
theorem WD:FO Tryz.prog 107=true:=by kernel_rfl
theorem b_:Cm Tryz.prog 107=some 64:=by kernel_rfl
theorem j0:∀ps,Tryz.prog.built 107 ps=Instr.fill (fun i=>(#[(0,1),(1,1),(2,1),(3,1),(4,1)]:Array (Nat×Nat))[i]?) ([.string (ByteArray.mk #[]),.int .i64 0,.int .i64 0,.slice none 0 0,.int .i64 0]:List Value).toArray ps:=by intro ps;kernel_rfl
theorem WE:([.string (ByteArray.mk #[]),.int .i64 0,.int .i64 0,.slice none 0 0,.int .i64 0]:List Value).all (·.oneCell')=true:=by kernel_rfl
theorem z107:Bn Tryz.prog 107=some [.string (ByteArray.mk #[]),.int .i64 0,.int .i64 0,.slice none 0 0,.int .i64 0]:=by kernel_rfl
theorem PK:Ag Tryz.prog 107 3=some 3:=by kernel_rfl
theorem Yr:Ag Tryz.prog 107 4=some 4:=by kernel_rfl
theorem WG:Aw Tryz.prog 129=some 2:=by kernel_rfl
theorem eJ:FO Tryz.prog 129=true:=by kernel_rfl
theorem cA:∀ps,Tryz.prog.built 129 ps=Instr.fill (fun i=>(#[(0,1),(1,1)]:Array (Nat×Nat))[i]?) ((List.replicate 2 (.int .i64 0)):List Value).toArray ps:=by intro ps;kernel_rfl
theorem cB:((List.replicate 2 (.int .i64 0)):List Value).all (·.oneCell')=true:=by kernel_rfl
theorem Ys:Ag Tryz.prog 129 0=some 0:=by kernel_rfl
theorem Yt:Ag Tryz.prog 129 1=some 1:=by kernel_rfl
theorem Cw:Aw Tryz.prog 131=some 15:=by kernel_rfl
theorem Em:FO Tryz.prog 131=true:=by kernel_rfl
theorem cC:Cm Tryz.prog 131=some 152:=by kernel_rfl
theorem j4:∀ps,Tryz.prog.built 131 ps=Instr.fill (fun i=>(#[(0,1),(1,1),(2,1),(3,2),(5,1),(6,2),(8,1),(9,1),(10,1),(11,1),(12,1),(13,2)]:Array (Nat×Nat))[i]?) ([.int .i64 0,.string (ByteArray.mk #[]),.string (ByteArray.mk #[]),.int .i64 0,.int .i64 0,.int .i64 0,.int .i64 0,.int .i64 0,.int .i64 0,.int .i64 0,.bool false,.int .i64 0,.slice none 0 0,.int .i64 0,.int .i64 0]:List Value).toArray ps:=by intro ps;kernel_rfl
theorem JI:([.int .i64 0,.string (ByteArray.mk #[]),.string (ByteArray.mk #[]),.int .i64 0,.int .i64 0,.int .i64 0,.int .i64 0,.int .i64 0,.int .i64 0,.int .i64 0,.bool false,.int .i64 0,.slice none 0 0,.int .i64 0,.int .i64 0]:List Value).all (·.oneCell')=true:=by kernel_rfl
theorem z131:Bn Tryz.prog 131=some [.int .i64 0,.string (ByteArray.mk #[]),.string (ByteArray.mk #[]),.int .i64 0,.int .i64 0,.int .i64 0,.int .i64 0,.int .i64 0,.int .i64 0,.int .i64 0,.bool false,.int .i64 0,.slice none 0 0,.int .i64 0,.int .i64 0]:=by kernel_rfl
theorem Yu:Ag Tryz.prog 131 0=some 0:=by kernel_rfl
theorem Yv:Ag Tryz.prog 131 1=some 1:=by kernel_rfl
theorem Yw:Ag Tryz.prog 131 2=some 2:=by kernel_rfl
theorem Yx:Ag Tryz.prog 131 3=some 3:=by kernel_rfl
theorem Yy:Ag Tryz.prog 131 4=some 5:=by kernel_rfl
theorem Yz:Ag Tryz.prog 131 5=some 6:=by kernel_rfl
theorem Y0:Ag Tryz.prog 131 6=some 8:=by kernel_rfl
theorem Y1:Ag Tryz.prog 131 7=some 9:=by kernel_rfl
theorem Y2:Ag Tryz.prog 131 8=some 10:=by kernel_rfl
theorem Y3:Ag Tryz.prog 131 9=some 11:=by kernel_rfl
theorem Qr:Ag Tryz.prog 131 10=some 12:=by kernel_rfl
theorem Mm:Ag Tryz.prog 131 11=some 13:=by kernel_rfl
theorem WH:Aw Tryz.prog 152=some 3:=by kernel_rfl
theorem j5:Cm Tryz.prog 152=some 24:=by kernel_rfl
theorem j6:∀ps,Tryz.prog.built 152 ps=Instr.fill (fun i=>(#[(0,2),(2,1)]:Array (Nat×Nat))[i]?) ((List.replicate 3 (.int .i64 0)):List Value).toArray ps:=by intro ps;kernel_rfl
theorem j7:((List.replicate 3 (.int .i64 0)):List Value).all (·.oneCell')=true:=by kernel_rfl
theorem z152:Bn Tryz.prog 152=some (List.replicate 3 (.int .i64 0)):=by kernel_rfl
theorem Y4:Ag Tryz.prog 152 1=some 2:=by kernel_rfl
theorem JZ:Ed Tryz.prog 156=true:=by kernel_rfl
theorem Ja:Ed Tryz.prog 157=true:=by kernel_rfl
theorem j8:∀ps,Tryz.prog.built 159 ps=Instr.fill (fun i=>(#[(0,1),(1,8),(9,8)]:Array (Nat×Nat))[i]?) ([.pointer none,.int .i64 0,.int .i64 0,.int .i64 0,.int .i64 0,.int .i64 0,.int .i64 0,.int .i64 0,.slice none 0 0,.int .i64 0,.int .i64 0,.int .i64 0,.int .i64 0,.int .i64 0,.int .i64 0,.int .i64 0,.slice none 0 0]:List Value).toArray ps:=by intro ps;kernel_rfl
theorem j9:([.pointer none,.int .i64 0,.int .i64 0,.int .i64 0,.int .i64 0,.int .i64 0,.int .i64 0,.int .i64 0,.slice none 0 0,.int .i64 0,.int .i64 0,.int .i64 0,.int .i64 0,.int .i64 0,.int .i64 0,.int .i64 0,.slice none 0 0]:List Value).all (·.oneCell')=true:=by kernel_rfl
theorem HT:Ag Tryz.prog 159 0=some 0:=by kernel_rfl
theorem Dh:Ag Tryz.prog 159 1=some 1:=by kernel_rfl
theorem Y5:Ag Tryz.prog 159 2=some 9:=by kernel_rfl
theorem JJ:Aw Tryz.prog 160=some 1:=by kernel_rfl
theorem Gx:Ed Tryz.prog 160=true:=by kernel_rfl
theorem cE:Aw Tryz.prog 161=some 13:=by kernel_rfl
theorem eK:FO Tryz.prog 161=true:=by kernel_rfl
theorem j_:∀ps,Tryz.prog.built 161 ps=Instr.fill (fun i=>some (i*1,1)) ((List.replicate 13 (.nilFunc)):List Value).toArray ps:=by intro ps;kernel_rfl
theorem cF:((List.replicate 13 (.nilFunc)):List Value).all (·.oneCell')=true:=by kernel_rfl
theorem qH:Bn Tryz.prog 161=some (List.replicate 13 (.nilFunc)):=by kernel_rfl
theorem Fw:Aw Tryz.prog 170=some 12:=by kernel_rfl
theorem IQ:FO Tryz.prog 170=true:=by kernel_rfl
theorem Tg:∀ps,Tryz.prog.built 170 ps=Instr.fill (fun i=>(#[(0,1),(1,1),(2,2),(4,2),(6,2),(8,2),(10,1),(11,1)]:Array (Nat×Nat))[i]?) ([.int .i64 0,.string (ByteArray.mk #[]),.int .i64 0,.int .i64 0,.int .i64 0,.int .i64 0,.int .i64 0,.int .i64 0,.int .i64 0,.int .i64 0,.int .i64 0,.int .i64 0]:List Value).toArray ps:=by intro ps;kernel_rfl
theorem J0:([.int .i64 0,.string (ByteArray.mk #[]),.int .i64 0,.int .i64 0,.int .i64 0,.int .i64 0,.int .i64 0,.int .i64 0,.int .i64 0,.int .i64 0,.int .i64 0,.int .i64 0]:List Value).all (·.oneCell')=true:=by kernel_rfl
theorem SO:Bn Tryz.prog 170=some [.int .i64 0,.string (ByteArray.mk #[]),.int .i64 0,.int .i64 0,.int .i64 0,.int .i64 0,.int .i64 0,.int .i64 0,.int .i64 0,.int .i64 0,.int .i64 0,.int .i64 0]:=by kernel_rfl
theorem Y6:Ag Tryz.prog 170 0=some 0:=by kernel_rfl
theorem kC:∀ps,Tryz.prog.built 191 ps=Instr.fill (fun i=>(#[(0,11),(11,1)]:Array (Nat×Nat))[i]?) ([.int .i64 0,.string (ByteArray.mk #[]),.int .i64 0,.int .i64 0,.int .i64 0,.int .i64 0,.string (ByteArray.mk #[]),.int .i64 0,.int .i64 0,.int .i64 0,.string (ByteArray.mk #[]),.slice none 0 0]:List Value).toArray ps:=by intro ps;kernel_rfl
theorem kD:([.int .i64 0,.string (ByteArray.mk #[]),.int .i64 0,.int .i64 0,.int .i64 0,.int .i64 0,.string (ByteArray.mk #[]),.int .i64 0,.int .i64 0,.int .i64 0,.string (ByteArray.mk #[]),.slice none 0 0]:List Value).all (·.oneCell')=true:=by kernel_rfl
theorem Y7:Ag Tryz.prog 191 0=some 0:=by kernel_rfl
theorem Y8:Ag Tryz.prog 191 1=some 11:=by kernel_rfl
theorem kE:Aw Tryz.prog 198=some 1:=by kernel_rfl
theorem WI:Ed Tryz.prog 198=true:=by kernel_rfl
theorem cH:Aw Tryz.prog 209=some 2:=by kernel_rfl
theorem kG:∀ps,Tryz.prog.built 209 ps=Instr.fill (fun i=>(#[(0,1),(1,1)]:Array (Nat×Nat))[i]?) ([.string (ByteArray.mk #[]),.int .i64 0]:List Value).toArray ps:=by intro ps;kernel_rfl
theorem cI:([.string (ByteArray.mk #[]),.int .i64 0]:List Value).all (·.oneCell')=true:=by kernel_rfl
theorem qI:Bn Tryz.prog 209=some [.string (ByteArray.mk #[]),.int .i64 0]:=by kernel_rfl
theorem Y9:Ag Tryz.prog 209 1=some 1:=by kernel_rfl
theorem kH:Aw Tryz.prog 221=some 1:=by kernel_rfl
theorem PL:Ed Tryz.prog 221=true:=by kernel_rfl
theorem CX:Aw Tryz.prog 223=some 4:=by kernel_rfl
theorem DE:FO Tryz.prog 223=true:=by kernel_rfl
theorem cJ:Cm Tryz.prog 223=some 64:=by kernel_rfl
theorem WJ:∀ps,Tryz.prog.built 223 ps=Instr.fill (fun i=>(#[(0,1),(1,1),(2,1),(3,1)]:Array (Nat×Nat))[i]?) ([.int .i64 0,.slice none 0 0,.bool false,.slice none 0 0]:List Value).toArray ps:=by intro ps;kernel_rfl
theorem JK:([.int .i64 0,.slice none 0 0,.bool false,.slice none 0 0]:List Value).all (·.oneCell')=true:=by kernel_rfl
theorem Ki:Bn Tryz.prog 223=some [.int .i64 0,.slice none 0 0,.bool false,.slice none 0 0]:=by kernel_rfl
theorem Y_:Ag Tryz.prog 223 0=some 0:=by kernel_rfl
theorem PM:Ag Tryz.prog 223 1=some 1:=by kernel_rfl
theorem ZA:Ag Tryz.prog 223 2=some 2:=by kernel_rfl
theorem J1:Ag Tryz.prog 223 3=some 3:=by kernel_rfl
theorem OK:Aw Tryz.prog 244=some 5:=by kernel_rfl
theorem PN:FO Tryz.prog 244=true:=by kernel_rfl
theorem D8:∀ps,Tryz.prog.built 244 ps=Instr.fill (fun i=>(#[(0,1),(1,1),(2,1),(3,1),(4,1)]:Array (Nat×Nat))[i]?) ([.string (ByteArray.mk #[]),.int .i64 0,.int .i64 0,.slice none 0 0,.slice none 0 0]:List Value).toArray ps:=by intro ps;kernel_rfl
theorem Dm:([.string (ByteArray.mk #[]),.int .i64 0,.int .i64 0,.slice none 0 0,.slice none 0 0]:List Value).all (·.oneCell')=true:=by kernel_rfl
theorem eL:Bn Tryz.prog 244=some [.string (ByteArray.mk #[]),.int .i64 0,.int .i64 0,.slice none 0 0,.slice none 0 0]:=by kernel_rfl
theorem ZB:Ag Tryz.prog 244 1=some 1:=by kernel_rfl
theorem ZC:Ag Tryz.prog 244 2=some 2:=by kernel_rfl
theorem ZD:Ag Tryz.prog 244 3=some 3:=by kernel_rfl
theorem ZE:Ag Tryz.prog 244 4=some 4:=by kernel_rfl
theorem eM:Ed Tryz.prog 252=true:=by kernel_rfl
theorem cL:Aw Tryz.prog 253=some 1:=by kernel_rfl
theorem eN:Ed Tryz.prog 253=true:=by kernel_rfl
theorem qJ:Bn Tryz.prog 253=some [.nilFunc]:=by kernel_rfl
theorem eO:Ed Tryz.prog 255=true:=by kernel_rfl
theorem cM:Aw Tryz.prog 272=some 115:=by kernel_rfl
theorem eP:FO Tryz.prog 272=true:=by kernel_rfl
theorem kI:∀ps,Tryz.prog.built 272 ps=Instr.fill (fun i=>some (i*5,5)) ([.string (ByteArray.mk #[]),.int .i64 0,.int .i64 0,.slice none 0 0,.slice none 0 0,.string (ByteArray.mk #[]),.int .i64 0,.int .i64 0,.slice none 0 0,.slice none 0 0,.string (ByteArray.mk #[]),.int .i64 0,.int .i64 0,.slice none 0 0,.slice none 0 0,.string (ByteArray.mk #[]),.int .i64 0,.int .i64 0,.slice none 0 0,.slice none 0 0,.string (ByteArray.mk #[]),.int .i64 0,.int .i64 0,.slice none 0 0,.slice none 0 0,.string (ByteArray.mk #[]),.int .i64 0,.int .i64 0,.slice none 0 0,.slice none 0 0,.string (ByteArray.mk #[]),.int .i64 0,.int .i64 0,.slice none 0 0,.slice none 0 0,.string (ByteArray.mk #[]),.int .i64 0,.int .i64 0,.slice none 0 0,.slice none 0 0,.string (ByteArray.mk #[]),.int .i64 0,.int .i64 0,.slice none 0 0,.slice none 0 0,.string (ByteArray.mk #[]),.int .i64 0,.int .i64 0,.slice none 0 0,.slice none 0 0,.string (ByteArray.mk #[]),.int .i64 0,.int .i64 0,.slice none 0 0,.slice none 0 0,.string (ByteArray.mk #[]),.int .i64 0,.int .i64 0,.slice none 0 0,.slice none 0 0,.string (ByteArray.mk #[]),.int .i64 0,.int .i64 0,.slice none 0 0,.slice none 0 0,.string (ByteArray.mk #[]),.int .i64 0,.int .i64 0,.slice none 0 0,.slice none 0 0,.string (ByteArray.mk #[]),.int .i64 0,.int .i64 0,.slice none 0 0,.slice none 0 0,.string (ByteArray.mk #[]),.int .i64 0,.int .i64 0,.slice none 0 0,.slice none 0 0,.string (ByteArray.mk #[]),.int .i64 0,.int .i64 0,.slice none 0 0,.slice none 0 0,.string (ByteArray.mk #[]),.int .i64 0,.int .i64 0,.slice none 0 0,.slice none 0 0,.string (ByteArray.mk #[]),.int .i64 0,.int .i64 0,.slice none 0 0,.slice none 0 0,.string (ByteArray.mk #[]),.int .i64 0,.int .i64 0,.slice none 0 0,.slice none 0 0,.string (ByteArray.mk #[]),.int .i64 0,.int .i64 0,.slice none 0 0,.slice none 0 0,.string (ByteArray.mk #[]),.int .i64 0,.int .i64 0,.slice none 0 0,.slice none 0 0,.string (ByteArray.mk #[]),.int .i64 0,.int .i64 0,.slice none 0 0,.slice none 0 0]:List Value).toArray ps:=by intro ps;kernel_rfl
theorem cN:([.string (ByteArray.mk #[]),.int .i64 0,.int .i64 0,.slice none 0 0,.slice none 0 0,.string (ByteArray.mk #[]),.int .i64 0,.int .i64 0,.slice none 0 0,.slice none 0 0,.string (ByteArray.mk #[]),.int .i64 0,.int .i64 0,.slice none 0 0,.slice none 0 0,.string (ByteArray.mk #[]),.int .i64 0,.int .i64 0,.slice none 0 0,.slice none 0 0,.string (ByteArray.mk #[]),.int .i64 0,.int .i64 0,.slice none 0 0,.slice none 0 0,.string (ByteArray.mk #[]),.int .i64 0,.int .i64 0,.slice none 0 0,.slice none 0 0,.string (ByteArray.mk #[]),.int .i64 0,.int .i64 0,.slice none 0 0,.slice none 0 0,.string (ByteArray.mk #[]),.int .i64 0,.int .i64 0,.slice none 0 0,.slice none 0 0,.string (ByteArray.mk #[]),.int .i64 0,.int .i64 0,.slice none 0 0,.slice none 0 0,.string (ByteArray.mk #[]),.int .i64 0,.int .i64 0,.slice none 0 0,.slice none 0 0,.string (ByteArray.mk #[]),.int .i64 0,.int .i64 0,.slice none 0 0,.slice none 0 0,.string (ByteArray.mk #[]),.int .i64 0,.int .i64 0,.slice none 0 0,.slice none 0 0,.string (ByteArray.mk #[]),.int .i64 0,.int .i64 0,.slice none 0 0,.slice none 0 0,.string (ByteArray.mk #[]),.int .i64 0,.int .i64 0,.slice none 0 0,.slice none 0 0,.string (ByteArray.mk #[]),.int .i64 0,.int .i64 0,.slice none 0 0,.slice none 0 0,.string (ByteArray.mk #[]),.int .i64 0,.int .i64 0,.slice none 0 0,.slice none 0 0,.string (ByteArray.mk #[]),.int .i64 0,.int .i64 0,.slice none 0 0,.slice none 0 0,.string (ByteArray.mk #[]),.int .i64 0,.int .i64 0,.slice none 0 0,.slice none 0 0,.string (ByteArray.mk #[]),.int .i64 0,.int .i64 0,.slice none 0 0,.slice none 0 0,.string (ByteArray.mk #[]),.int .i64 0,.int .i64 0,.slice none 0 0,.slice none 0 0,.string (ByteArray.mk #[]),.int .i64 0,.int .i64 0,.slice none 0 0,.slice none 0 0,.string (ByteArray.mk #[]),.int .i64 0,.int .i64 0,.slice none 0 0,.slice none 0 0,.string (ByteArray.mk #[]),.int .i64 0,.int .i64 0,.slice none 0 0,.slice none 0 0]:List Value).all (·.oneCell')=true:=by kernel_rfl
theorem qK:Bn Tryz.prog 272=some [.string (ByteArray.mk #[]),.int .i64 0,.int .i64 0,.slice none 0 0,.slice none 0 0,.string (ByteArray.mk #[]),.int .i64 0,.int .i64 0,.slice none 0 0,.slice none 0 0,.string (ByteArray.mk #[]),.int .i64 0,.int .i64 0,.slice none 0 0,.slice none 0 0,.string (ByteArray.mk #[]),.int .i64 0,.int .i64 0,.slice none 0 0,.slice none 0 0,.string (ByteArray.mk #[]),.int .i64 0,.int .i64 0,.slice none 0 0,.slice none 0 0,.string (ByteArray.mk #[]),.int .i64 0,.int .i64 0,.slice none 0 0,.slice none 0 0,.string (ByteArray.mk #[]),.int .i64 0,.int .i64 0,.slice none 0 0,.slice none 0 0,.string (ByteArray.mk #[]),.int .i64 0,.int .i64 0,.slice none 0 0,.slice none 0 0,.string (ByteArray.mk #[]),.int .i64 0,.int .i64 0,.slice none 0 0,.slice none 0 0,.string (ByteArray.mk #[]),.int .i64 0,.int .i64 0,.slice none 0 0,.slice none 0 0,.string (ByteArray.mk #[]),.int .i64 0,.int .i64 0,.slice none 0 0,.slice none 0 0,.string (ByteArray.mk #[]),.int .i64 0,.int .i64 0,.slice none 0 0,.slice none 0 0,.string (ByteArray.mk #[]),.int .i64 0,.int .i64 0,.slice none 0 0,.slice none 0 0,.string (ByteArray.mk #[]),.int .i64 0,.int .i64 0,.slice none 0 0,.slice none 0 0,.string (ByteArray.mk #[]),.int .i64 0,.int .i64 0,.slice none 0 0,.slice none 0 0,.string (ByteArray.mk #[]),.int .i64 0,.int .i64 0,.slice none 0 0,.slice none 0 0,.string (ByteArray.mk #[]),.int .i64 0,.int .i64 0,.slice none 0 0,.slice none 0 0,.string (ByteArray.mk #[]),.int .i64 0,.int .i64 0,.slice none 0 0,.slice none 0 0,.string (ByteArray.mk #[]),.int .i64 0,.int .i64 0,.slice none 0 0,.slice none 0 0,.string (ByteArray.mk #[]),.int .i64 0,.int .i64 0,.slice none 0 0,.slice none 0 0,.string (ByteArray.mk #[]),.int .i64 0,.int .i64 0,.slice none 0 0,.slice none 0 0,.string (ByteArray.mk #[]),.int .i64 0,.int .i64 0,.slice none 0 0,.slice none 0 0,.string (ByteArray.mk #[]),.int .i64 0,.int .i64 0,.slice none 0 0,.slice none 0 0]:=by kernel_rfl
theorem cO:Aw Tryz.prog 292=some 2:=by kernel_rfl
theorem eR:FO Tryz.prog 292=true:=by kernel_rfl
theorem kJ:∀ps,Tryz.prog.built 292 ps=Instr.fill (fun i=>some (i*1,1)) ((List.replicate 2 (.int .i64 0)):List Value).toArray ps:=by intro ps;kernel_rfl
theorem cQ:((List.replicate 2 (.int .i64 0)):List Value).all (·.oneCell')=true:=by kernel_rfl
theorem qL:Bn Tryz.prog 292=some (List.replicate 2 (.int .i64 0)):=by kernel_rfl
theorem kK:∀ps,Tryz.prog.built 293 ps=Instr.fill (fun i=>some (i*2,2)) ((List.replicate 10 (.int .i64 0)):List Value).toArray ps:=by intro ps;kernel_rfl
theorem kL:((List.replicate 10 (.int .i64 0)):List Value).all (·.oneCell')=true:=by kernel_rfl
theorem kM:Aw Tryz.prog 294=some 1:=by kernel_rfl
theorem eS:Ed Tryz.prog 294=true:=by kernel_rfl
theorem kN:([.int .u64 0]:List Value).all (·.oneCell')=true:=by kernel_rfl
theorem qM:Bn Tryz.prog 294=some [.int .u64 0]:=by kernel_rfl
end Go.Proofs.YtppeeogffbpcbaaGreat
namespace Cp
open Go Go.RowKit Go.Great
section
variable {P:Program} {L:Lg P} {n:Fm} {fz:Nat} {E:Env} {M0:Av} {w0:World} {S:Nat→Prop} {rs:List BS} {o:Oper}
def lens (m:Nat):Pr where
 h _ _ v:=∃a c,v= .slice a m c
 st _M _w _M' _w' _v _ h:=h
instance kO (m:Nat):One (lens m):=⟨by rintro M w v ⟨a,c,rfl⟩;exact ⟨rfl,rfl⟩⟩
def C8 (e:TypeId) (sz:Nat) (rows:List (List Pr)) (v:Value):BS where
 Iv:=match v with| .slice (some a) _ _=>some a.block|_=>none
 new:=true
 h M w:=∃(b cap:Nat) (spare:List Value),v= .slice (some ⟨b,0,none⟩) rows.length cap∧rows.length≤cap∧cap≤maxLen∧spare.length=(cap-rows.length)*sz∧(AA true b e (rows.flatten++spare.map is)).h M w
 st M w M' w' he hk h:=by
  obtain ⟨b,cap,spare,rfl,h1,h2,h3,h4⟩:=h
  exact ⟨b,cap,spare,rfl,h1,h2,h3,(AA true b e _).st _ _ _ _ he hk h4⟩
theorem HU {sz:Nat}:∀{rows:List (List Pr)} {i j:Nat} {row:List Pr},(∀r∈rows,r.length=sz)→rows[i]? =some row→j<sz→rows.flatten[i*sz+j]? =row[j]?
 |[],_,_,_,_,h,_=>by simp at h
 |a::l,0,j,row,hl,h,hj=>by
  simp at h;subst h
  have:=hl a (by simp)
  rw [List.flatten_cons,Nat.zero_mul,Nat.zero_add,List.getElem?_append_left (by omega)]
 |a::l,i+1,j,row,hl,h,hj=>by
  have h1:=hl a (by simp)
  rw [List.flatten_cons,Nat.succ_mul,List.getElem?_append_right (by omega),h1,show i*sz+sz+j-sz=i*sz+j by omega]
  exact HU (fun r hr=>hl r (List.mem_cons_of_mem _ hr)) (by simpa using h) hj
theorem CO {sz:Nat}:∀{rows:List (List Pr)},(∀r∈rows,r.length=sz)→rows.flatten.length=rows.length*sz
 |[],_=>by simp
 |a::l,h=>by
  rw [List.flatten_cons,List.length_append,CO (fun r hr=>h r (List.mem_cons_of_mem _ hr)),h a (by simp),List.length_cons,Nat.succ_mul];omega
theorem Th {M:Av} {w:World}:∀{ps:List Pr} {vs:List Value},vs.length=ps.length→(∀(k:Nat) p,ps[k]? =some p→∃u,vs[k]? =some u∧p.h M w u)→HL M w ps vs
 |[],[],_,_=>trivial
 |[],_::_,h,_=>by simp at h
 |_::_,[],h,_=>by simp at h
 |p::ps,v::vs,h,hk=>by
  refine ⟨?_,Th (by simpa using h) fun k q hq=>by simpa using hk (k+1) q (by simpa using hq)⟩
  obtain ⟨u,hu,hp⟩:=hk 0 p rfl
  simp at hu;subst hu;exact hp
theorem Flat.hl {M:Av} {w:World} {sz:Nat} {rows:List (List Pr)} {news:List Value} (hsz:0<sz) (h:Flat M w sz rows news):HL M w rows.flatten news:=by
 have hl:∀r∈rows,r.length=sz:=fun r hr=>by obtain ⟨i,hi⟩:=List.mem_iff_getElem?.1 hr;exact (h.2.2 i r hi).1
 refine Th (by rw [h.1,CO hl]) fun k p hk=> ?_
 have O3:k<rows.length*sz:=by rw [←CO hl];rcases Nat.lt_or_ge k rows.flatten.length with h|h;exact h;rw [List.getElem?_eq_none h] at hk;cases hk
 have hi:k/sz<rows.length:=Nat.div_lt_of_lt_mul (by rw [Nat.mul_comm];exact O3)
 have hj:k % sz<sz:=Nat.mod_lt _ hsz
 have he:k/sz*sz+k % sz=k:=by rw [Nat.mul_comm];exact Nat.div_add_mod k sz
 have hr:=List.getElem?_eq_getElem hi
 rw [←he,HU hl hr hj] at hk
 obtain ⟨u,hu,hp⟩:=(h.2.2 _ _ hr).2 _ p hk
 exact ⟨u,by rw [←he];exact hu,hp⟩
theorem HL.flat {M:Av} {w:World} {sz:Nat} {rows:List (List Pr)} {qs:List Pr} {cs:List Value} (hl:∀r∈rows,r.length=sz) (h:HL M w (rows.flatten++qs) cs) (h1:∀c∈cs,c.oneCell'=true):Flat M w sz rows (cs.take (rows.length*sz)):=by
 have hfl:=CO hl
 have hlen:=h.length
 refine ⟨by rw [List.length_take,hlen,List.length_append,hfl];omega,fun u hu=>h1 u (List.mem_of_mem_take hu),fun i row hi=> ?_⟩
 have hrl:=hl row (List.mem_of_getElem? hi)
 refine ⟨hrl,fun j p hp=> ?_⟩
 have hjl:j<sz:=by rw [←hrl];rcases Nat.lt_or_ge j row.length with h|h;exact h;rw [List.getElem?_eq_none h] at hp;cases hp
 have E3:i<rows.length:=by rcases Nat.lt_or_ge i rows.length with h|h;exact h;rw [List.getElem?_eq_none h] at hi;cases hi
 have hlt:i*sz+j<rows.length*sz:=by have:(i+1)*sz≤rows.length*sz:=Nat.mul_le_mul_right sz E3;rw [Nat.add_mul] at this;omega
 obtain ⟨u,hu,hh⟩:=h.at_ (i*sz+j) p (by rw [List.getElem?_append_left (by rw [hfl];exact hlt),HU hl hi hjl];exact hp)
 exact ⟨u,by rw [List.getElem?_take,if_pos hlt];exact hu,hh⟩
theorem D0 {zs:List Value} {z:Array Value} {k:Nat} (hz:z.toList=zs) (h1:zs.all (·.oneCell')=true):∀c∈(Builtin.zeroCells z k).toList,c.oneCell'=true:=by
 intro c hc
 simp only [Builtin.zeroCells,Array.toList_map,Array.toList_range,List.mem_map,List.mem_range] at hc
 obtain ⟨i,hi,rfl⟩:=hc
 have hpos:0<z.size:=by rcases Nat.eq_zero_or_pos z.size with h|h;rw [h] at hi;simp at hi;exact h
 have hm:i % z.size<z.size:=Nat.mod_lt _ hpos
 rw [getElem!_pos z _ hm]
 exact List.all_eq_true.1 h1 _ (by rw [←hz];simp)
theorem ZF {M:Av} {w:World} {t ty e:TypeId} {sz bytes:Nat} {zs:List Value} {rows:List (List Pr)} {u:Value} {j:Nat} (ht:P.underlying t=some (.slice e)) (hz:Aw P e=some sz) (hby:Cm P e=some bytes) (Dy:Bn P e=some zs) (hzl:zs.length=sz) (hone:zs.all (·.oneCell')=true) (hsz:0<sz)
  (h:Bl M0 w0 S rs M w) (hj:rs[j]? =some Bw) (hu:(slice sz rows).h M w u) (hpos:0<rows.length) (FE:rows.length≤maxLen) (hfit:rows.length*bytes≤140737488355328):
  ∃v' w' M',(Builtin.append_ #[t,t] ty #[.slice none 0 0,u]).run P w= .ok v' w'∧(lens rows.length).h M' w' v'∧Ext M w M' w'∧Bl M0 w0 S (rs.set j (C8 e sz rows v')) M' w':=by
 unfold Aw at hz
 unfold Cm at hby
 unfold Bn at Dy
 cases hi:P.info? e with
 |none=>rw [hi] at hz;cases hz
 |some i=>
  rw [hi] at hz hby Dy
  simp only [Option.map_some,Option.some.injEq,Option.map_eq_some_iff] at hz hby Dy
  obtain ⟨z,QV,Dy⟩:=Dy
  have TY:z.cells.size=sz:=by rw [←hzl,←Dy];simp
  obtain ⟨A',c',rfl,Yg,O4,Vu,El⟩:=hu
  have Iu:(slice sz rows).h M w (.slice A' rows.length c'):=⟨A',c',rfl,Yg,O4,Vu,El⟩
  obtain ⟨Ke,rfl⟩:∃Ke,A'=some Ke:=by
   obtain ⟨_,b,hb,_⟩:=El 0 _ (List.getElem?_eq_getElem hpos)
   exact ⟨b,hb⟩
  obtain ⟨news,hfl,hcell⟩:=Ek hsz Iu
  have hrun:=run_append_nil (P:=P) w t ty e i z ht hi QV Ke rows.length c' news (by rw [hz];exact hfl.1) (fun k u hk=>(hcell k u hk).1) hpos (by unfold maxLen at FE;omega) (by rw [hby];omega)
  generalize hcap:grownCap w rows.length 0 e=cap at hrun
  have hge:rows.length≤cap:=by rw [←hcap];exact grownCap_ge _ _ _ _
  have hle:cap≤maxLen:=by rw [←hcap];exact grownCap_le_maxLen _ _ _ _ FE
  generalize Nv:Builtin.zeroCells z.cells (cap-rows.length)=zc at hrun
  have hzs:zc.size=(cap-rows.length)*sz:=by rw [←Nv,size_zeroCells,TY]
  have kP:∀c∈zc.toList,c.oneCell'=true:=by rw [←Nv];exact D0 Dy hone
  have hb:Below w.heap.size w (w.drew.alloc (.cells (news.toArray++zc) e)):=((Below.refl _ _).drew).alloc (Nat.le_refl _) _
  have h2:=Ext.below (M:=M) hb
  have D3:Ext M w (fun b o=>M b o∨b=w.heap.size) (w.drew.alloc (.cells (news.toArray++zc) e)):=by
   refine ⟨h2.size,fun a v hc hm=>⟨fun hx=> ?_,(h2.keep a v hc hm).2⟩,fun b o ho hp hm=>⟨fun hx=> ?_,(h2.obj b o ho hp hm).2⟩⟩
   ·
    rcases hx with hx|hx
    · exact hm hx
    · have:=D6 hc;omega
   ·
    rcases hx with hx|hx
    · exact hm hx
    · subst hx;simp at ho
  have hs1:(w.drew.alloc (.cells (news.toArray++zc) e)).heap.size=w.heap.size+1:=by simp
  refine ⟨_,_,fun b o=>M b o∨b=w.heap.size,hrun,⟨_,_,rfl⟩,D3,?_⟩
  refine h.replace hj D3 hb.os hb.tape hb.output (fun k hk _=>hb.block k hk) rfl (fun b o hm _=> .inl hm) (fun b o hx=> ?_) ?_ rfl (fun b hbk=> ?_)
  ·
   rcases hx with hx|hx
   · have:=h.bd _ _ hx;omega
   · omega
  ·
   refine ⟨w.heap.size,cap,zc.toList,rfl,hge,hle,by simpa using hzs,fun o=> .inr rfl,news++zc.toList,?_,?_,?_⟩
   ·
    have hh:(w.drew.alloc (.cells (news.toArray++zc) e)).heap[w.heap.size]? =some (.cells (news.toArray++zc) e (0,0)):=heap_alloc_new w.drew _
    rw [hh];simp
   · exact ((hfl.st D3).hl hsz).app (LA _ _ _)
   ·
    intro c hc
    rcases List.mem_append.1 hc with hc|hc
    · exact hfl.2.1 c hc
    · exact kP c hc
  ·
   have EH:some w.heap.size=some b:=hbk
   injection EH with e1
   subst e1
   exact ⟨by rw [hs1];omega,.inr (Nat.le_refl _)⟩
theorem St.LJ {e:TypeId} {sz:Nat} {rows:List (List Pr)} {v:Value} (j:Nat) (hj:rs[j]? =some (C8 e sz rows v)) {a:Act} {w:World} (h:St n E (Hp M0 w0 S rs) a w):
  ∃(b cap:Nat) (spare:List Value),v= .slice (some ⟨b,0,none⟩) rows.length cap∧rows.length≤cap∧cap≤maxLen∧spare.length=(cap-rows.length)*sz∧St n E (Hp M0 w0 S (rs.set j (AA true b e (rows.flatten++spare.map is)))) a w:=by
 obtain ⟨M,h1,h2,h3,h4⟩:=h
 have h4:Bl M0 w0 S rs M w:=h4
 obtain ⟨b,cap,spare,rfl,h5,h6,h7,h8⟩:=(h4.hold _ (List.mem_of_getElem? hj)).1
 exact ⟨b,cap,spare,rfl,h5,h6,h7,M,h1,h2,h3,h4.Dr hj rfl rfl h8⟩
theorem Tr.LJ {Q:Exit→Act→World→Prop} {c:Code} {e:TypeId} {sz:Nat} {rows:List (List Pr)} {v:Value} (j:Nat) (hj:rs[j]? =some (C8 e sz rows v))
  (k:∀(b cap:Nat) (spare:List Value),v= .slice (some ⟨b,0,none⟩) rows.length cap→rows.length≤cap→cap≤maxLen→spare.length=(cap-rows.length)*sz→Tr L n E (Hp M0 w0 S (rs.set j (AA true b e (rows.flatten++spare.map is)))) c Q):Tr L n E (Hp M0 w0 S rs) c Q:=
 fun a w hs=>let ⟨b,cap,spare,h1,h2,h3,h4,h5⟩:=hs.LJ j hj;k b cap spare h1 h2 h3 h4 a w h5
theorem Fin.LJ {Q:Exit→Act→World→Prop} {ex:Exit} {e:TypeId} {sz:Nat} {rows:List (List Pr)} {v:Value} (j:Nat) (hj:rs[j]? =some (C8 e sz rows v))
  (k:∀(b cap:Nat) (spare:List Value),v= .slice (some ⟨b,0,none⟩) rows.length cap→rows.length≤cap→cap≤maxLen→spare.length=(cap-rows.length)*sz→Fin n E (Hp M0 w0 S (rs.set j (AA true b e (rows.flatten++spare.map is)))) Q ex):Fin n E (Hp M0 w0 S rs) Q ex:=
 fun a w hs=>let ⟨b,cap,spare,h1,h2,h3,h4,h5⟩:=hs.LJ j hj;k b cap spare h1 h2 h3 h4 a w h5
theorem Bl.ZG {M:Av} {w:World} {b cap sz:Nat} {e:TypeId} {rows:List (List Pr)} {qs:List Pr} {j:Nat} (h:Bl M0 w0 S rs M w) (hj:rs[j]? =some (AA true b e (rows.flatten++qs))) (hl:∀r∈rows,r.length=sz) (hc:rows.length≤cap) (hm:cap≤maxLen) (hq:qs.length=(cap-rows.length)*sz):
  ∃M',Ext M w M' w∧Bl M0 w0 S (rs.set j (BR e sz (.slice (some ⟨b,0,none⟩) rows.length cap))) M' w∧(slice sz rows).h M' w (.slice (some ⟨b,0,none⟩) rows.length cap):=by
 obtain ⟨⟨hM,cs,hh,hcs,hone⟩,bf⟩:=h.hold _ (List.mem_of_getElem? hj)
 have kQ:=(bf b rfl).1
 have hfl:=HL.flat hl hcs hone
 have hlen:=hcs.length
 rw [List.length_append,CO hl,hq,←Nat.add_mul,show rows.length+(cap-rows.length)=cap by omega] at hlen
 have he:Ext M w (fun b' o=>M b' o∧¬(b'=b∧o<rows.length*sz)) w:=Ext.less fun _ _ h=>h.1
 refine ⟨_,he,?_,Fa (hfl.st he) hc hm fun k u hk=> ?_⟩
 ·
  refine h.replace hj he rfl rfl rfl (fun _ _ _=>rfl) rfl (fun b' o hm' hne=>⟨hm',fun hx=>hne (by rw [hx.1];rfl)⟩) (fun b' o hx=>h.bd _ _ hx.1) ?_ rfl (fun b' hbk=> ?_)
  ·
   intro a' n' c' hv hlt
   injection hv with e1 e2 e3
   injection e1 with e1
   subst e1;subst e2;subst e3
   refine ⟨⟨cs.take (rows.length*sz),hfl.1,.inr ⟨b,cap,cs.toArray,rfl,Nat.zero_le _,hh,hc,hm,by simpa using hlen,by simp⟩⟩,fun o ho=>⟨hM o,fun hx=>by omega⟩⟩
  ·
   have EH:DW (.slice (some ⟨b,0,none⟩) rows.length cap)=some b':=hbk
   simp only [DW] at EH
   split at EH
   · simp at EH;subst EH;exact ⟨kQ,.inl rfl⟩
   · cases EH
 ·
  have O3:k<rows.length*sz:=by rw [←hfl.1];rcases Nat.lt_or_ge k (cs.take (rows.length*sz)).length with h|h;exact h;rw [List.getElem?_eq_none h] at hk;cases hk
  rw [List.getElem?_take,if_pos O3] at hk
  exact ⟨by simp [World.cell?,hh,hk],fun hx=>hx.2 ⟨rfl,O3⟩⟩
end
abbrev str (l:List UInt8):Pr:=is (.string ⟨l.toArray⟩)
theorem En (l:List UInt8):(ByteArray.mk l.toArray).toList=l:=by rw [ByteArray.toList_eq]
theorem Mn (l:List UInt8):(ByteArray.mk l.toArray).size=l.length:=rfl
section
variable {P:Program} {L:Lg P} {E:Env} {I:Ci} {o:Oper}
theorem eT {t u:TypeId} {x y:Operand} {a b:List UInt8} (ho:o.op= .binOp .eql t x y u) (hx:VL E x (str a)) (hy:VL E y (str b)):Af P I o E (bool (decide (a=b))):=
 Af.same fun M w ac he _=>by
  have h1:ac.eval x=_:=hx.ev he (by simp [ho,Op.operands])
  have h2:ac.eval y=_:=hy.ev he (by simp [ho,Op.operands])
  refine ⟨_,by simp [execOp,ho,h1,h2,eqGuard,binOp,Op.stringOp,En];rfl,?_⟩
  show Value.bool _=Value.bool _
  congr 1
  rw [Bool.eq_iff_iff];simp
theorem eU {t u:TypeId} {x y:Operand} {a b:List UInt8} (ho:o.op= .binOp .neq t x y u) (hx:VL E x (str a)) (hy:VL E y (str b)):Af P I o E (bool (!decide (a=b))):=
 Af.same fun M w ac he _=>by
  have h1:ac.eval x=_:=hx.ev he (by simp [ho,Op.operands])
  have h2:ac.eval y=_:=hy.ev he (by simp [ho,Op.operands])
  refine ⟨_,by simp [execOp,ho,h1,h2,eqGuard,binOp,Op.stringOp,En];rfl,?_⟩
  show Value.bool _=Value.bool _
  congr 1
  rw [Bool.eq_iff_iff];simp
theorem J2:∀(a b:List UInt8),Op.bytesLess a b=decide (Lib.compareBytes a b= -1)
 |_,[]=>by cases ‹List UInt8›<;>simp [Op.bytesLess,Lib.compareBytes]
 |[],_::_=>by simp [Op.bytesLess,Lib.compareBytes]
 |a::x,b::y=>by
  rw [Op.bytesLess,J2 x y,Lib.compareBytes]
  by_cases h1:a<b
  · simp [h1]
  ·
   by_cases h2:b<a
   ·
    have h3:a≠b:=fun e=>by subst e;exact h1 h2
    simp [h1,h2,h3]
   ·
    have h3:a=b:=UInt8.le_antisymm (UInt8.not_lt.1 h2) (UInt8.not_lt.1 h1)
    simp [h1,h2,h3]
theorem J3:∀(a b:List UInt8),Lib.compareBytes a b=0↔a=b
 |[],[]=>by simp [Lib.compareBytes]
 |[],_::_=>by simp [Lib.compareBytes]
 |_::_,[]=>by simp [Lib.compareBytes]
 |a::x,b::y=>by
  rw [Lib.compareBytes]
  by_cases h1:a<b
  ·
   simp only [h1,if_true]
   constructor
   · intro h;cases h
   · intro h;injection h with e _;subst e;exact absurd h1 (UInt8.lt_irrefl _)
  ·
   by_cases h2:b<a
   ·
    simp only [h1,h2,if_true,if_false]
    constructor
    · intro h;cases h
    · intro h;injection h with e _;subst e;exact absurd h2 (UInt8.lt_irrefl _)
   ·
    have h3:a=b:=UInt8.le_antisymm (UInt8.not_lt.1 h2) (UInt8.not_lt.1 h1)
    rw [if_neg h1,if_neg h2,J3 x y];simp [h3]
theorem IU:∀(a b:List UInt8),Lib.compareBytes b a= -Lib.compareBytes a b
 |[],[]=>rfl
 |[],_::_=>rfl
 |_::_,[]=>rfl
 |a::x,b::y=>by
  rw [Lib.compareBytes,Lib.compareBytes,IU x y]
  by_cases h1:a<b
  ·
   have h2:¬b<a:=fun h=>UInt8.lt_asymm h1 h
   simp [h1,h2]
  · by_cases h2:b<a<;>simp [h1,h2]
theorem SP:∀(a b:List UInt8),Lib.compareBytes a b= -1∨Lib.compareBytes a b=0∨Lib.compareBytes a b=1
 |[],[]=>by simp [Lib.compareBytes]
 |[],_::_=>by simp [Lib.compareBytes]
 |_::_,[]=>by simp [Lib.compareBytes]
 |a::x,b::y=>by
  rw [Lib.compareBytes]
  split
  · simp
  ·
   split
   · simp
   · exact SP x y
theorem eV {t u:TypeId} {x y:Operand} {a b:List UInt8} (ho:o.op= .binOp .lss t x y u) (hx:VL E x (str a)) (hy:VL E y (str b)):Af P I o E (bool (decide (Lib.compareBytes a b= -1))):=
 Af.same fun M w ac he _=>by
  have h1:ac.eval x=_:=hx.ev he (by simp [ho,Op.operands])
  have h2:ac.eval y=_:=hy.ev he (by simp [ho,Op.operands])
  exact ⟨_,by simp [execOp,ho,h1,h2,eqGuard,binOp,Op.stringOp,En,J2],rfl⟩
theorem eW {t u:TypeId} {x y:Operand} {a b:List UInt8} (ho:o.op= .binOp .gtr t x y u) (hx:VL E x (str a)) (hy:VL E y (str b)):Af P I o E (bool (decide (Lib.compareBytes a b=1))):=
 Af.same fun M w ac he _=>by
  have h1:ac.eval x=_:=hx.ev he (by simp [ho,Op.operands])
  have h2:ac.eval y=_:=hy.ev he (by simp [ho,Op.operands])
  refine ⟨_,by simp [execOp,ho,h1,h2,eqGuard,binOp,Op.stringOp,En,J2];rfl,?_⟩
  show Value.bool _=Value.bool _
  congr 1
  rw [Bool.eq_iff_iff]
  have h3:=J3 a b
  rcases SP a b with h|h|h
  · simp [h]
  ·
   have h4:=h3.1 h
   rw [h];simp [h4]
  ·
   have:a≠b:=fun e=>by have:=h3.2 e;omega
   simp [h,this]
theorem Mo {t u:TypeId} {x y:Operand} {a b:List UInt8} (ho:o.op= .binOp .geq t x y u) (hx:VL E x (str a)) (hy:VL E y (str b)):Af P I o E (bool (!decide (Lib.compareBytes a b= -1))):=
 Af.same fun M w ac he _=>by
  have h1:ac.eval x=_:=hx.ev he (by simp [ho,Op.operands])
  have h2:ac.eval y=_:=hy.ev he (by simp [ho,Op.operands])
  exact ⟨_,by simp [execOp,ho,h1,h2,eqGuard,binOp,Op.stringOp,En,J2],rfl⟩
theorem UU {f : FuncId} {fn : Func} {x y : Operand} {ts : Array TypeId} {a b : List UInt8} (ho : o.op = .call { callee := .value (.func f), args := #[x, y], argTypes := ts }) (hf : P.funcs[f]? = some fn) (hname : (fn.name == "runtime.NumGoroutine") = false)
  (hb:fn.body.isNone=true) (hn:Extern.findNext fn=none) (hex:Extern.find fn=some Extern.BytealgCompare.compare) (hx:VL E x (str a)) (hy:VL E y (str b)):Af P I o E (int (Lib.compareBytes a b)):=
 Af.same fun M w ac he _=>by
  have h1:ac.eval x=_:=hx.ev he (by simp [ho,Op.operands,Call.operands])
  have h2:ac.eval y=_:=hy.ev he (by simp [ho,Op.operands,Call.operands])
  have h3:ac.eval (.func f)= .func (.func f) #[] #[]:=rfl
  refine ⟨_,?_,rfl⟩
  have hrun:(execOp ac.eval o).run P w=(callFunc f #[ac.eval x,ac.eval y]).run P w:=by simp [execOp,ho,resolve,Deferred.ofValue,invoke,h3]
  rw [hrun,h1,h2,run_callFunc_extern hf hname hb hn hex,Lib.run_compareString]
  rfl
theorem ZH {t:TypeId} {x:Operand} {a:List UInt8} (ho:o.op= .call { callee:= .builtin .len,args:= #[x],argTypes:= #[t] }) (ht:P.underlying t=some .string) (hx:VL E x (str a)):Af P I o E (int ((a.length:Nat):Int)):=
 Af.same fun M w ac he _=>by
  have h1:ac.eval x=_:=hx.ev he (by simp [ho,Op.operands,Call.operands])
  exact ⟨.int .i64 a.length,by simp [execOp,ho,resolve,invoke,builtin,Builtin.len_,h1,run_underlying ht,goInt,Mn],rfl⟩
theorem Lu {t:TypeId} {x y:Operand} {k:IntKind} {a:List UInt8} {i:Int} {c:UInt8} (ho:o.op= .index t x y) (ht:P.underlying t=some .string) (hx:VL E x (str a)) (hy:VL E y (is (.int k i))) (h0:0≤i) (hc:a[i.toNat]? =some c):Af P I o E (is (.int .u8 c.toNat)):=
 Af.same fun M w ac he _=>by
  have h1:ac.eval x=_:=hx.ev he (by simp [ho,Op.operands])
  have h2:ac.eval y=_:=hy.ev he (by simp [ho,Op.operands])
  refine ⟨_,?_,rfl⟩
  have hlt:i.toNat<a.length:=by rcases Nat.lt_or_ge i.toNat a.length with h|h;exact h;rw [List.getElem?_eq_none h] at hc;cases hc
  have h3:(ByteArray.mk a.toArray)[i.toNat]? =some c:=by
   rw [getElem?_pos (ByteArray.mk a.toArray) i.toNat (by rw [Mn];exact hlt)]
   rw [List.getElem?_eq_getElem hlt] at hc
   simp only [Option.some.injEq] at hc
   rw [←hc]
   rfl
  simp [execOp,ho,h1,h2,Instr.index,asIntOf,run_underlying ht,h0,h3]
theorem Mp {s t e:TypeId} {x:Operand} {a:List UInt8} (ho:o.op= .convert s t x) (hs:P.underlying s=some .string) (ht:P.underlying t=some (.slice e)) (he:P.underlying e=some (.int .u8)) (hx:VL E x (str a)) (hm:a.length≤maxLen):Af P I o E (slice 1 (a.map fun c=>[is (.int .u8 c.toNat)])):=
 Af.val fun M w ac ZI hI=>by
  have h1:ac.eval x=_:=hx.ev ZI (by simp [ho,Op.operands])
  have hrun:=Lib.run_convert_string_bytes (P:=P) w s t e ⟨a.toArray⟩ hs ht he
  have hcap:=grownCap_ge w a.length 0 e
  have hcm:=grownCap_le_maxLen w a.length 0 e hm
  refine ⟨.slice (some ⟨w.heap.size,0,none⟩) a.length (grownCap w a.length 0 e),Lib.bytesWorld w e ⟨a.toArray⟩,by simp [execOp,ho,h1,hrun];exact ⟨rfl,rfl⟩,?_,?_⟩
  ·
   have hbd:Bd M w:=I.bd _ _ hI
   refine ⟨_,grownCap w a.length 0 e,by rw [List.length_map],by rw [List.length_map];exact hcap,hcm,(fun h=>by cases h),fun i row hr=> ?_⟩
   rw [List.getElem?_map] at hr
   cases hc:a[i]? with
   |none=>rw [hc] at hr;cases hr
   |some c=>
    rw [hc] at hr
    simp only [Option.map_some,Option.some.injEq] at hr
    subst hr
    have E3:i<a.length:=by rcases Nat.lt_or_ge i a.length with h|h;exact h;rw [List.getElem?_eq_none h] at hc;cases hc
    refine ⟨rfl,_,rfl,fun j p hp=> ?_⟩
    have hj:j=0:=by
     rcases Nat.eq_zero_or_pos j with h|h
     · exact h
     · rw [List.getElem?_eq_none (by simp;omega)] at hp;cases hp
    subst hj
    simp only [List.getElem?_cons_zero,Option.some.injEq] at hp
    subst hp
    refine ⟨.int .u8 c.toNat,?_,fun hmm=> ?_,rfl,rfl⟩
    ·
     rw [show Addr.add ⟨w.heap.size,0,none⟩ (i*1+0)=⟨w.heap.size,i,none⟩ by unfold Addr.add;split<;>simp_all]
     rw [Lib.bytesWorld_cell w e ⟨a.toArray⟩ i (by rw [Mn];exact E3)]
     have:([]++a).getD i 0=c:=by simp [hc]
     simp [hc]
    · have:=hbd _ _ hmm;simp at this
  · exact Lib.bytesWorld_below w e ⟨a.toArray⟩
theorem PO {a:List UInt8} {k:Nat} {c:UInt8} (h:a[k]? =some c):a[((k:Nat):Int).toNat]? =some c:=h
theorem Qs {t e:TypeId} {x y:Operand} {k:IntKind} {i:Int} {len sz:Nat} {ps qs:List Pr} (ho:o.op= .index t x y) (ht:P.underlying t=some (.array len e)) (he:FO P e=true) (hz:Aw P e=some sz) (hx:VL E x (agg ps)) (hy:VL E y (is (.int k i))) (h0:0≤i) (hl:i<len)
  (hq:(ps.drop (i.toNat*sz)).take sz=qs):Af P I o E (agg qs):=
 Af.same fun M w ac ZI _=>by
  obtain ⟨cs,h1,iC,h2⟩:=hx.ev ZI (by simp [ho,Op.operands])
  have h3:ac.eval y=_:=hy.ev ZI (by simp [ho,Op.operands])
  refine ⟨.agg (cs.toArray.extract (i.toNat*sz) (i.toNat*sz+sz)),?_,(cs.drop (i.toNat*sz)).take sz,?_,fun c hc=>iC c (List.mem_of_mem_drop (List.mem_of_mem_take hc)),by rw [←hq];exact (h2.drop _).take _⟩
  · simp [execOp,ho,h1,h3,Instr.index,asIntOf,run_underlying ht,h0,hl,Bm hz,part,DV he]
  ·
   congr 1
   apply Array.toList_inj.1
   simp [List.extract,Nat.add_sub_cancel_left]
theorem PR {M:Av} {w:World} {v:Value} {xs:List Value} (h:(agg (xs.map is)).h M w v):v= .agg xs.toArray:=by
 obtain ⟨cs,rfl,ho,h2⟩:=h
 congr 1
 have:cs=xs:=by
  clear ho
  induction xs generalizing cs with
  |nil=>cases cs with
   |nil=>rfl
   |cons c cs=>exact h2.elim
  |cons x xs ih=>cases cs with
   |nil=>exact h2.elim
   |cons c cs=>rw [ih cs h2.2,show c=x from h2.1]
 rw [this]
theorem Mq {t u:TypeId} {x y:Operand} {r:Bool} (xs ys:List Value) (ho:o.op= .binOp .eql t x y u) (hx:VL E x (agg (xs.map is))) (hy:VL E y (agg (ys.map is))) (hg:P.eqGuardType P.depth t=false) (hr:∀w,(Op.equal t (.agg xs.toArray) (.agg ys.toArray)).run P w= .ok r w):Af P I o E (bool r):=
 Af.same fun M w ac he _=>by
  have h1:=PR (hx.ev he (by simp [ho,Op.operands]))
  have h2:=PR (hy.ev he (by simp [ho,Op.operands]))
  exact ⟨_,by simp [execOp,ho,h1,h2,eqGuard,hg,binOp,hr w],rfl⟩
theorem Mr {t u:TypeId} {x y:Operand} {r:Bool} (xs ys:List Value) (ho:o.op= .binOp .neq t x y u) (hx:VL E x (agg (xs.map is))) (hy:VL E y (agg (ys.map is))) (hg:P.eqGuardType P.depth t=false) (hr:∀w,(Op.equal t (.agg xs.toArray) (.agg ys.toArray)).run P w= .ok r w):Af P I o E (bool (!r)):=
 Af.same fun M w ac he _=>by
  have h1:=PR (hx.ev he (by simp [ho,Op.operands]))
  have h2:=PR (hy.ev he (by simp [ho,Op.operands]))
  exact ⟨_,by simp [execOp,ho,h1,h2,eqGuard,hg,binOp,hr w],rfl⟩
theorem eqS {P:Program} {w:World} {d:Nat} {t:TypeId} {fs:Array Field} {xs ys:Array Value} {r:Bool} (ht:P.underlying t=some (.struct fs)) (hp:P.stoodInHeld t=false) (h:(Op.eqFields d xs ys fs.toList).run P w= .ok r w):(Op.equalIn (d+1) t (.agg xs) (.agg ys)).run P w= .ok r w:=by
 have hf:P.fieldsOf t=fs:=by unfold Program.fieldsOf;rw [ht]
 rw [run_equalIn_struct w d t xs ys (by rw [hf];exact ht) hp,hf];exact h
theorem PT {P:Program} {w:World} {d:Nat} {xs ys:Array Value}:(Op.eqFields d xs ys []).run P w= .ok true w:=by simp [Op.eqFields]
theorem DU {P : Program} {w : World} {d : Nat} {xs ys : Array Value} {f : Field} {fs : List Field} {vx vy : Value} {r q : Bool} (hn : f.name ≠ "_") (ha : (part f.type xs f.offset).run P w = .ok vx w) (hb : (part f.type ys f.offset).run P w = .ok vy w)
  (he:(Op.equalIn d f.type vx vy).run P w= .ok r w) (hr:(Op.eqFields d xs ys fs).run P w= .ok q w):(Op.eqFields d xs ys (f::fs)).run P w= .ok (r&&q) w:=by
 simp only [Op.eqFields,hn,ne_eq,not_false_eq_true,if_true,Sem.run_bind,ha,hb,he,Result.andThen_ok]
 cases r
 · simp
 · simpa using hr
theorem Bp {P:Program} {w:World} {t:TypeId} {cs:Array Value} {off:Nat} {v:Value} (h1:Ed P t=true) (hv:cs[off]? =some v):(part t cs off).run P w= .ok v w:=by
 simp [part,FZ h1,hv]
theorem Qt {P:Program} {w:World} {t:TypeId} {cs:Array Value} {off m:Nat} {vs:Array Value} (h1:FO P t=true) (hz:Aw P t=some m) (hv:cs.extract off (off+m)=vs):(part t cs off).run P w= .ok (.agg vs) w:=by
 simp [part,DV h1,Bm hz,hv]
theorem Fe {P:Program} {w:World} {d:Nat} {t:TypeId} {k:IntKind} {a b:Int} (h:P.underlying t=some (.int k)):(Op.equalIn (d+1) t (.int k a) (.int k b)).run P w= .ok (decide (a=b)) w:=by
 rw [run_equalIn_int w d t k k a b h];rfl
theorem PU {P:Program} {w:World} {d:Nat} {t:TypeId} {a b:List UInt8} (h:P.underlying t=some .string):(Op.equalIn (d+1) t (.string ⟨a.toArray⟩) (.string ⟨b.toArray⟩)).run P w= .ok (decide (a=b)) w:=by
 rw [run_equalIn_string w d t _ _ h,En,En]
 congr 1
 rw [Bool.eq_iff_iff];simp
end
section
variable {P:Program} {L:Lg P} {E:Env} {I:Ci} {o:Oper}
theorem Ms {M:Av} {w:World} {sz:Nat} {rows:List (List Pr)} {A:Option Addr} {cap lo hi:Nat} (h:(slice sz rows).h M w (.slice A rows.length cap)) (h1:lo≤hi) (h2:hi≤rows.length):
  (slice sz ((rows.take hi).drop lo)).h M w (.slice (if cap=lo then A else A.map (·.add (lo*sz))) (hi-lo) (cap-lo)):=by
 obtain ⟨A',cap',hv,hc,hm,hA,hr⟩:=h
 injection hv with e1 _ e3
 subst e1;subst e3
 have hlen:((rows.take hi).drop lo).length=hi-lo:=by rw [List.length_drop,List.length_take];omega
 refine ⟨_,cap-lo,by rw [hlen],by rw [hlen];omega,by omega,fun h=> ?_,fun i row hi'=> ?_⟩
 ·
  split at h
  · have:=hA h;omega
  ·
   cases hA2:A with
   |none=>have:=hA hA2;omega
   |some a=>rw [hA2] at h;cases h
 ·
  rw [List.getElem?_drop,List.getElem?_take] at hi'
  split at hi'
  ·
   rename_i hlt
   obtain ⟨h3,ad,h4,h5⟩:=hr _ row hi'
   subst h4
   rw [if_neg (by omega)]
   refine ⟨h3,_,rfl,fun j p hp=> ?_⟩
   obtain ⟨u,h6,h7,h8,h9⟩:=h5 j p hp
   refine ⟨u,?_,?_,h8,h9⟩
   · rw [add_add,show lo*sz+(i*sz+j)=(lo+i)*sz+j by rw [Nat.add_mul];omega];exact h6
   · rw [FM,It,show ad.off+lo*sz+(i*sz+j)=ad.off+((lo+i)*sz+j) by rw [Nat.add_mul];omega];exact h7
  · cases hi'
theorem Cn {t e:TypeId} {x y:Operand} {k:IntKind} {h:Int} {sz:Nat} {rows:List (List Pr)} (ho:o.op= .slice t x none (some y) none) (ht:P.underlying t=some (.slice e)) (hz:Aw P e=some sz) (hx:VL E x (slice sz rows)) (hy:VL E y (is (.int k h))) (h0:0≤h) (hl:h≤rows.length):
  Af P I o E (slice sz (rows.take h.toNat)):=
 Af.same fun M w a he _=>by
  have h1:=hx.ev he (by simp [ho,Op.operands])
  have h3:a.eval y=_:=hy.ev he (by simp [ho,Op.operands])
  obtain ⟨A,cap,hv,hc,hm,hA,hr⟩:=h1
  have h2:=Ms (lo:=0) (hi:=h.toNat) (show (slice sz rows).h M w (.slice A rows.length cap) from ⟨A,cap,rfl,hc,hm,hA,hr⟩) (by omega) (by omega)
  refine ⟨_,?_,by simpa using h2⟩
  have hb:h≤(cap:Int):=by omega
  simp [execOp,ho,hv,h3,Instr.sliceAt,Instr.slice,run_underlying ht,Instr.sliceBounds,Instr.sliceBound,asIntOf,h0,hb,Bm hz]
theorem B1 {t e:TypeId} {x y:Operand} {k:IntKind} {l:Int} {sz:Nat} {rows:List (List Pr)} (ho:o.op= .slice t x (some y) none none) (ht:P.underlying t=some (.slice e)) (hz:Aw P e=some sz) (hx:VL E x (slice sz rows)) (hy:VL E y (is (.int k l))) (h0:0≤l) (hl:l≤rows.length):
  Af P I o E (slice sz (rows.drop l.toNat)):=
 Af.same fun M w a he _=>by
  have h1:=hx.ev he (by simp [ho,Op.operands])
  have h3:a.eval y=_:=hy.ev he (by simp [ho,Op.operands])
  obtain ⟨A,cap,hv,hc,hm,hA,hr⟩:=h1
  have h2:=Ms (lo:=l.toNat) (hi:=rows.length) (show (slice sz rows).h M w (.slice A rows.length cap) from ⟨A,cap,rfl,hc,hm,hA,hr⟩) (by omega) (Nat.le_refl _)
  rw [List.take_length] at h2
  refine ⟨_,?_,h2⟩
  simp [execOp,ho,hv,h3,Instr.sliceAt,Instr.slice,run_underlying ht,Instr.sliceBounds,Instr.sliceBound,asIntOf,h0,hl,Bm hz]
end
abbrev FJ:Pr:=is (.tuple #[])
section
variable {P:Program} {L:Lg P} {n:Fm} {fz:Nat} {E:Env} {M0:Av} {w0:World} {S:Nat→Prop} {rs:List BS} {o:Oper} {g:Func} {M1:Av} {w1:World}
theorem results0 {g:Func} {a:Act} {w:World} (hr:g.results= #[]):(results g a.tmps).run P w= .ok (.tuple #[]) w:=by
 rw [HP,hr];simp [Sem.run_bind]
theorem Fin.kR (hr:g.results= #[]):Fin ⟨fz,[]⟩ E (Hp M0 w0 Jp rs) (bodyPost P g (Nt M0 w0 FJ)) .normal:=by
 rintro a w ⟨M,_,hd,he,hi⟩
 obtain ⟨h1,h2⟩:=Ct.F5 M0 w0 M w hi
 exact ⟨hd,_,results0 hr,_,rfl,rfl,h2⟩
theorem Fin.kS (hr:g.results= #[]):Fin ⟨fz,[]⟩ E (Hp M0 w0 Jp rs) (bodyPost P g (Nt M0 w0 FJ)) .ret:=by
 rintro a w ⟨M,_,hd,he,hi⟩
 obtain ⟨h1,h2⟩:=Ct.F5 M0 w0 M w hi
 exact ⟨hd,_,results0 hr,_,rfl,rfl,h2⟩
theorem Fin.Mt {r:BS} (hr:g.results= #[]):Fin ⟨fz,[]⟩ E (Hp M0 w0 S (r::Bc M1 w1::rs)) (bodyPost P g (Mg M0 w0 S rs M1 w1 FJ (fun _=>r))) .normal:=by
 rintro a w ⟨M,_,hd,he,hi⟩
 obtain ⟨h1,h2⟩:=Vx hi
 exact ⟨hd,_,results0 hr,_,M,rfl,rfl,h1,h2⟩
def Ti (E:Env) (v0:Value) (q0:Pr):List Operand→List Pr→Prop
 |[],[]=>True
 |x::xs,p::ps=>(VL E x p∨(VL E x (is v0)∧Pr.le (Ay v0 q0) p))∧Ti E v0 q0 xs ps
 |_,_=>False
theorem Ti.ev {M M':Av} {w:World} {a:Act} {v0:Value} {q0:Pr} (he:DM M w E o a) (hx:Ext M w M' w) (h0:q0.h M' w v0):∀{xs:List Operand} {ps:List Pr},(∀x∈xs,x∈o.op.operands.toList)→Ti E v0 q0 xs ps→HL M' w ps (xs.map a.eval)
 |[],[],_,_=>trivial
 |[],_::_,_,h=>h.elim
 |_::_,[],_,h=>h.elim
 |x::xs,p::ps,hm,h=>by
  refine ⟨?_,Ti.ev he hx h0 (fun y hy=>hm y (List.mem_cons_of_mem _ hy)) h.2⟩
  rcases h.1 with h1|⟨h1,h2⟩
  · exact p.st _ _ _ _ _ hx (h1.ev he (hm x (by simp)))
  ·
   have h3:a.eval x=v0:=h1.ev he (hm x (by simp))
   exact h2 _ _ _ ⟨h3,by rw [h3];exact h0⟩
class Kj (p:Pr):Prop where
 free:∀M M' w v,p.h M w v→p.h M' w v
instance oG (u:Value):Kj (is u):=⟨fun _ _ _ _ h=>h⟩
instance iD (m:Nat):Kj (lens m):=⟨fun _ _ _ _ h=>h⟩
end
def R8 (es:List (Value×Value)):Array MapEntry:=(es.zipIdx.map fun p=>({ key:=p.1.1,val:=p.1.2,born:=p.2 }:MapEntry)).toArray
theorem Mu (es:List (Value×Value)) (i:Nat):(R8 es)[i]? =(es[i]?).map fun p=>{ key:=p.1,val:=p.2,born:=i }:=by
 simp [R8,List.getElem?_zipIdx]
 cases es[i]? <;>simp
structure qN (P:Program) (T kt et:TypeId) {κ:Type} [DecidableEq κ] (enc:κ→Value):Prop where
 und:P.underlying T=some (.map kt et)
 zero:∀w,(zeroValue et).run P w= .ok (.int .i64 0) w
 eq:∀a b w,(Op.equal kt (enc a) (enc b)).run P w= .ok (decide (a=b)) w
 chk:∀e a w,(Instr.checkKey e 10000 kt (enc a)).run P w= .ok () w
 tP:∃d,P.underlying kt=some d∧((∀a b,Instr.sameNow d (enc a) (enc b)=none)∨∀a b,Instr.sameNow d (enc a) (enc b)=some (decide (a=b)))
 bits:∀a,Instr.sameBits 10000 (enc a) (enc a)=true
section
variable {P:Program} {L:Lg P} {n:Fm} {fz:Nat} {E:Env} {M0:Av} {w0:World} {S:Nat→Prop} {rs:List BS} {o:Oper} {κ:Type} [DecidableEq κ] {enc:κ→Value}
abbrev Mv (enc:κ→Value) (es:List (κ×Int)):List (Value×Value):=es.map fun p=>(enc p.1,.int .i64 p.2)
def eX (enc:κ→Value) (b:Nat) (es:List (κ×Int)):BS where
 Iv:=some b
 new:=true
 h M w:=(∀o,M b o)∧w.heap[b]? =some (.map (R8 (Mv enc es)) es.length)
 st M w M' w' he hk h:=by
  obtain ⟨h1,h2⟩:=hk b rfl
  exact ⟨fun o=>h2 o (h.1 o),h1.trans h.2⟩
def look (es:List (κ×Int)) (k:κ):Option Int:=(es.find? fun p=>decide (k=p.1)).map (·.2)
theorem Bl.qO {M:Av} {w:World} {obj:Obj} {r:BS} (h:Bl M0 w0 S rs M w) (hb:r.Iv=some w.heap.size) (hn:r.new=true) (hr:r.h (fun b o=>M b o∨b=w.heap.size) (w.alloc obj)):
  Bl M0 w0 S (r::rs) (fun b o=>M b o∨b=w.heap.size) (w.alloc obj)∧Ext M w (fun b o=>M b o∨b=w.heap.size) (w.alloc obj):=by
 have kQ:Below w.heap.size w (w.alloc obj):=(Below.refl _ _).alloc (Nat.le_refl _) _
 have hsz:(w.alloc obj).heap.size=w.heap.size+1:=by simp
 have he:Ext M w (fun b o=>M b o∨b=w.heap.size) (w.alloc obj):=by
  have h2:=Ext.below (M:=M) kQ
  refine ⟨h2.size,fun a v hc hm=>⟨fun hx=> ?_,(h2.keep a v hc hm).2⟩,fun b o ho hp hm=>⟨fun hx=> ?_,(h2.obj b o ho hp hm).2⟩⟩
  ·
   rcases hx with hx|hx
   · exact hm hx
   · have:=D6 hc;omega
  ·
   rcases hx with hx|hx
   · exact hm hx
   · subst hx;simp at ho
 have hI:=(Hp M0 w0 S rs).st _ _ _ kQ h
 refine ⟨⟨hI.m0,fun b o hm=> .inl (hI.m b o hm),hI.os,hI.tape,hI.output,hI.size,hI.block,fun b o hm=> ?_,fun r' hr'=> ?_,?_⟩,he⟩
 ·
  rcases hm with hm|hm
  · exact hI.bd b o hm
  · omega
 ·
  rcases List.mem_cons.1 hr' with rfl|hr'
  ·
   refine ⟨hr,fun b hbk=> ?_⟩
   rw [hb] at hbk
   injection hbk with hbk
   subst hbk
   exact ⟨by omega,by rw [hn];simpa using h.size⟩
  ·
   obtain ⟨h3,h4⟩:=h.hold r' hr'
   exact ⟨r'.st _ _ _ _ he (fun b hbk=>⟨kQ.block b (h4 b hbk).1,fun _ x=> .inl x⟩) h3,fun b hbk=>⟨by have:=(h4 b hbk).1;omega,(h4 b hbk).2⟩⟩
 ·
  refine List.Pairwise.cons (fun r' hr' b hbk EH=> ?_) h.nd
  rw [hb] at hbk
  injection hbk with hbk
  have:=((h.hold r' hr').2 b EH).1
  omega
def Mw (w:World) (b:Nat) (o:Obj):World:={ w with heap:=w.heap.setIfInBounds b o }
theorem ZJ {w:World} {b:Nat} {o:Obj} (h:b<w.heap.size):(Mw w b o).heap[b]? =some o:=by
 show (w.heap.setIfInBounds b o)[b]? =_
 rw [Array.getElem?_setIfInBounds];simp [h]
theorem Jb {w:World} {b k:Nat} {o:Obj} (h:k≠b):(Mw w b o).heap[k]? =w.heap[k]? :=by
 show (w.heap.setIfInBounds b o)[k]? =_
 rw [Array.getElem?_setIfInBounds,if_neg (fun e=>h e.symm)]
theorem Bl.qP {M:Av} {w:World} {obj:Obj} {r r':BS} {j b:Nat} (h:Bl M0 w0 S rs M w) (hj:rs[j]? =some r) (hb:r.Iv=some b) (hb':r'.Iv=some b) (hn:r.new=true) (hn':r'.new=true) (hM:∀o,M b o) (hr:r'.h M (Mw w b obj)):
  Bl M0 w0 S (rs.set j r') M (Mw w b obj)∧Ext M w M (Mw w b obj):=by
 have hlt:=((h.hold r (List.mem_of_getElem? hj)).2 b hb).1
 have hsz:(Mw w b obj).heap.size=w.heap.size:=by simp [Mw]
 have he:Ext M w M (Mw w b obj):=by
  refine ⟨by omega,fun a v hc hm=>⟨hm,?_⟩,fun k o ho hp hm=>⟨hm,?_⟩⟩
  · rw [World.cell?_of_block (w:=w) (Jb (fun e=>hm (by rw [e];exact hM _)))];exact hc
  · rw [Jb (fun e=>hm (by rw [e];exact hM _))];exact ho
 refine ⟨h.replace hj he rfl rfl rfl (fun k _ hk=>Jb (fun e=>hk (by rw [hb,e]))) hn (fun _ _ hm _=>hm) (fun k o hm=>by rw [hsz];exact h.bd k o hm) hr hn' (fun k hk=> ?_),he⟩
 rw [hb'] at hk
 injection hk with hk
 subst hk
 exact ⟨by omega,.inl hb⟩
variable {Q:Exit→Act→World→Prop} {ops:Array Oper} {r:List Oper}
def OL (it b m:Nat) (seen:List Nat):BS where
 Iv:=some it
 new:=true
 h M w:=(∀o,M it o)∧w.heap[it]? =some (.mapIter (some b) m seen.toArray m)
 st M w M' w' he hk h:=by
  obtain ⟨h1,h2⟩:=hk it rfl
  exact ⟨fun o=>h2 o (h.1 o),h1.trans h.2⟩
theorem TO.range {d j b:Nat} {T kt et:TypeId} {x:Operand} {es:List (κ×Int)} (hT:qN P T kt et enc) (hg:o.guard=none) (hd:o.dst=some d) (hn:d<n) (ho:o.op= .range T x) (hx:VL E x (is (.map (some b)))) (hj:rs[j]? =some (eX enc b es))
  (k:∀it,TO P n ops r ((d,ptr it 0)::E) (Hp M0 w0 S (OL it b es.length []::rs)) Q):TO P n ops (o::r) E (Hp M0 w0 S rs) Q:=
 TO.UQ hg fun K M w a hsz hdf he hI hK=>by
  have h1:a.eval x=_:=hx.ev (o:=o) (Ca he) (by simp [ho,Op.operands])
  obtain ⟨_,hh⟩:=(Bl.hold hI _ (List.mem_of_getElem? hj)).1
  refine TO.val (v:= .pointer (some ⟨w.heap.size,0,none⟩)) (w':=w.alloc (.mapIter (some b) es.length #[] es.length)) ?_ ?_
  · simp [execOp,ho,h1,run_range_map w T kt et b _ _ hT.und hh]
  ·
   obtain ⟨h2,h3⟩:=Bl.qO (obj:= .mapIter (some b) es.length #[] es.length) (r:=OL w.heap.size b es.length []) hI rfl rfl ⟨fun _=> .inr rfl,by rw [heap_alloc_new]⟩
   refine hK _ _ _ _ (k w.heap.size) ⟨_,by rw [CF];exact hsz,by rw [put_defers];exact hdf,?_,h2⟩
   intro s p hp
   simp only [List.lookup] at hp
   by_cases hs:s=d
   · subst hs;simp at hp;subst hp;rw [hd,B4 (by rw [hsz];exact hn)];rfl
   ·
    rw [show (s==d)=false by simpa using hs] at hp
    rw [hd,CD hs]
    exact p.st _ _ _ _ _ h3 (he s p hp)
theorem mem_left {es:List (Value×Value)} {seen:List Nat} {e:MapEntry}:e∈(leftOf (R8 es) seen.toArray).toList↔∃q p,es[q]? =some p∧q∉seen∧e={ key:=p.1,val:=p.2,born:=q }:=by
 unfold leftOf
 rw [Array.toList_filter,List.mem_filter]
 constructor
 ·
  rintro ⟨h1,h2⟩
  obtain ⟨q,hq⟩:=List.mem_iff_getElem?.1 h1
  rw [Array.getElem?_toList,Mu] at hq
  cases hp:es[q]? with
  |none=>rw [hp] at hq;cases hq
  |some p=>
   rw [hp] at hq
   simp only [Option.map_some,Option.some.injEq] at hq
   subst hq
   exact ⟨q,p,hp,by simpa using h2,rfl⟩
 ·
  rintro ⟨q,p,hp,hq,rfl⟩
  exact ⟨List.mem_iff_getElem?.2 ⟨q,by rw [Array.getElem?_toList,Mu,hp];rfl⟩,by simpa using hq⟩
theorem PV {w:World} (ty:TypeId) {it b m:Nat} {seen:List Nat} {es:List (Value×Value)} (hm:es.length=m) (hit:w.heap[it]? =some (.mapIter (some b) m seen.toArray m)) (hb:w.heap[b]? =some (.map (R8 es) m)):
  ((∀q,q<m→q∈seen)∧(Instr.next (.pointer (some ⟨it,0,none⟩)) false ty).run P w= .ok (.tuple #[.bool false]) w)∨
  ∃q p,es[q]? =some p∧q∉seen∧∃w1,(w1=w∨w1=w.drew)∧(Instr.next (.pointer (some ⟨it,0,none⟩)) false ty).run P w= .ok (.tuple #[.bool true,p.1,p.2]) (Mw w1 it (.mapIter (some b) m (seen++[q]).toArray m)):=by
 have hold:∀x∈(R8 es).toList,x.born<m:=by
  intro x hx
  obtain ⟨q,hq⟩:=List.mem_iff_getElem?.1 hx
  rw [Array.getElem?_toList,Mu] at hq
  cases hp:es[q]? with
  |none=>rw [hp] at hq;cases hq
  |some p=>
   rw [hp] at hq
   simp only [Option.map_some,Option.some.injEq] at hq
   subst hq
   show q<m
   rcases Nat.lt_or_ge q es.length with h|h
   · omega
   · rw [List.getElem?_eq_none h] at hp;cases hp
 simp only [Instr.next,getObj,Sem.run_bind,Sem.run,hit,hb,Result.andThen,next_test_false seen.toArray (R8 es) m m hold (Nat.le_refl _),Bool.false_eq_true,if_false]
 have hleft:(R8 es).filter (fun e=> !seen.toArray.contains e.born)=leftOf (R8 es) seen.toArray:=rfl
 rw [hleft]
 have hmem:∀x∈(leftOf (R8 es) seen.toArray).toList,x.born<m:=fun x hx=>by
  obtain ⟨q,p,h1,_,rfl⟩:=mem_left.1 hx
  rcases Nat.lt_or_ge q es.length with h|h
  · show q<m;omega
  · rw [List.getElem?_eq_none h] at h1;cases h1
 have hml:∀e,e∈(leftOf (R8 es) seen.toArray).toList↔∃q p,es[q]? =some p∧q∉seen∧e={ key:=p.1,val:=p.2,born:=q }:=fun e=>mem_left
 generalize leftOf (R8 es) seen.toArray=L at hmem hml ⊢
 have e1:L.filter (fun x=>decide (x.born<m))=L:=Array.filter_eq_self.2 (fun x hx=>by simpa using hmem x (by simpa using hx))
 have e2:L.filter (fun x=>decide (x.born≥m))= #[]:=by
  rw [Array.filter_eq_empty_iff]
  intro x hx
  have:=hmem x (by simpa using hx)
  simp
  omega
 simp only [e1,e2,Array.append_empty]
 by_cases h0:L.size=0
 ·
  left
  have hL:L= #[]:=Array.eq_empty_of_size_eq_zero h0
  refine ⟨fun q hq=> ?_,?_⟩
  ·
   rcases Classical.em (q∈seen) with h|h
   · exact h
   ·
    have:=(hml { key:=(es[q]'(by omega)).1,val:=(es[q]'(by omega)).2,born:=q }).2 ⟨q,es[q]'(by omega),List.getElem?_eq_getElem (by omega),h,rfl⟩
    rw [hL] at this;simp at this
  ·
   subst hL
   simp [choose,Sem.run,Question.forced]
 ·
  right
  have hne:L.isEmpty=false:=by simp [Array.isEmpty,h0]
  simp only [hne,Bool.false_eq_true,if_false,Array.empty_append,Array.size_map]
  have hch:∃(j:Nat) (w1:World),j<L.size∧(w1=w∨w1=w.drew)∧(choose (Question.mapNext L.size)).run P w= .ok j w1:=by
   by_cases hf:L.size≤1
   · exact ⟨0,w,by omega,.inl rfl,by simp [choose,Sem.run,Question.forced,hf]⟩
   ·
    exact ⟨_, w.drew, Nat.mod_lt _ (by omega), .inr rfl, by
     simp only [choose,Sem.run,Question.forced,decide_eq_true_eq,hf,if_false,Question.cut]
     rfl⟩
  obtain ⟨j,w1,hj,Lv,hrun⟩:=hch
  obtain ⟨q,p,hq1,R6,eY⟩:=(hml L[j]).1 (by simp)
  refine ⟨q,p,hq1,R6,w1,Lv,?_⟩
  have hw1:w1.heap=w.heap:=by rcases Lv with rfl|rfl<;>rfl
  have Gu:∀(o':Obj),(setObj it o').run P w1= .ok () (Mw w1 it o'):=fun o'=>by
   have qQ:w1.heap[it]? =some (.mapIter (some b) m seen.toArray m):=by rw [hw1];exact hit
   simp only [setObj,Sem.run,qQ]
   rfl
  simp only [hrun,Array.getElem?_map,Array.getElem?_eq_getElem hj,Option.map_some,Sem.run_bind,Gu,Result.andThen]
  rw [eY]
  simp
omit [DecidableEq κ] in
theorem TO.next {d i j it b:Nat} {x:Operand} {es:List (κ×Int)} {seen:List Nat} (hg:o.guard=none) (hd:o.dst=some d) (hn:d<n) (ho:o.op= .next x false) (hx:VL E x (ptr it 0)) (hi:rs[i]? =some (OL it b es.length seen)) (hj:rs[j]? =some (eX enc b es))
  (k1:(∀q,q<es.length→q∈seen)→TO P n ops r ((d,Eu [bool false])::E) (Hp M0 w0 S rs) Q)
  (k2:∀q p,es[q]? =some p→q∉seen→TO P n ops r ((d,Eu [bool true,is (enc p.1),int p.2])::E) (Hp M0 w0 S (rs.set i (OL it b es.length (seen++[q])))) Q):TO P n ops (o::r) E (Hp M0 w0 S rs) Q:=
 TO.UQ hg fun K M w a hsz hdf he hI hK=>by
  have h1:a.eval x= .pointer (some ⟨it,0,none⟩):=hx.ev (o:=o) (Ca he) (by simp [ho,Op.operands])
  obtain ⟨⟨hMi,hit⟩,hbi⟩:=Bl.hold hI _ (List.mem_of_getElem? hi)
  obtain ⟨_,hh⟩:=(Bl.hold hI _ (List.mem_of_getElem? hj)).1
  have hlt:=(hbi it rfl).1
  rcases PV (P:=P) o.type (es:=Mv enc es) (by simp [Mv]) hit hh with ⟨h2,h3⟩|⟨q,p,h2,h3,w1,h4,h5⟩
  ·
   refine TO.val (v:= .tuple #[.bool false]) (w':=w) ?_ ?_
   · simp [execOp,ho,h1,h3]
   ·
    refine hK _ _ _ _ (k1 h2) ⟨M,by rw [CF];exact hsz,by rw [put_defers];exact hdf,?_,hI⟩
    intro s p hp
    simp only [List.lookup] at hp
    by_cases hs:s=d
    · subst hs;simp at hp;subst hp;rw [hd,B4 (by rw [hsz];exact hn)];exact ⟨_,rfl,rfl,trivial⟩
    ·
     rw [show (s==d)=false by simpa using hs] at hp
     rw [hd,CD hs];exact he s p hp
  ·
   have hes:∃p',es[q]? =some p'∧p=(enc p'.1,.int .i64 p'.2):=by
    simp only [Mv,List.getElem?_map] at h2
    cases h:es[q]? with
    |none=>rw [h] at h2;cases h2
    |some p'=>rw [h] at h2;simp at h2;exact ⟨p',rfl,h2.symm⟩
   obtain ⟨p',Jq,rfl⟩:=hes
   refine TO.val (v:= .tuple #[.bool true,enc p'.1,.int .i64 p'.2]) (w':=Mw w1 it (.mapIter (some b) es.length (seen++[q]).toArray es.length)) ?_ ?_
   · simp [execOp,ho,h1,h5]
   ·
    have eZ:Below w.heap.size w w1:=by
     rcases h4 with rfl|rfl
     · exact Below.refl _ _
     · exact (Below.refl _ _).drew
    have hI1:=(Hp M0 w0 S rs).st _ _ _ eZ hI
    obtain ⟨h6,h7⟩:=Bl.qP (obj:= .mapIter (some b) es.length (seen++[q]).toArray es.length) (r':=OL it b es.length (seen++[q])) hI1 hi rfl rfl rfl rfl hMi ⟨hMi,ZJ (Nat.lt_of_lt_of_le hlt eZ.size)⟩
    refine hK _ _ _ _ (k2 q p' Jq h3) ⟨M,by rw [CF];exact hsz,by rw [put_defers];exact hdf,?_,h6⟩
    intro s p hp
    simp only [List.lookup] at hp
    by_cases hs:s=d
    · subst hs;simp at hp;subst hp;rw [hd,B4 (by rw [hsz];exact hn)];exact ⟨_,rfl,rfl,rfl,rfl,trivial⟩
    ·
     rw [show (s==d)=false by simpa using hs] at hp
     rw [hd,CD hs]
     exact p.st _ _ _ _ _ ((Ext.below eZ).trans h7) (he s p hp)
omit [DecidableEq κ] in
theorem TO.entry {d i j it b q:Nat} {x:Operand} {es:List (κ×Int)} {seen:List Nat} {p:κ×Int} (hg:o.guard=none) (hd:o.dst=some d) (hn:d<n) (ho:o.op= .entry x) (hx:VL E x (ptr it 0)) (hi:rs[i]? =some (OL it b es.length (seen++[q]))) (hj:rs[j]? =some (eX enc b es)) (hq:es[q]? =some p)
  (k:TO P n ops r ((d,Eu [is (enc p.1),int p.2])::E) (Hp M0 w0 S rs) Q):TO P n ops (o::r) E (Hp M0 w0 S rs) Q:=
 TO.UQ hg fun K M w a hsz hdf he hI hK=>by
  have h1:a.eval x= .pointer (some ⟨it,0,none⟩):=hx.ev (o:=o) (Ca he) (by simp [ho,Op.operands])
  obtain ⟨⟨_,hit⟩,_⟩:=Bl.hold hI _ (List.mem_of_getElem? hi)
  obtain ⟨_,hh⟩:=(Bl.hold hI _ (List.mem_of_getElem? hj)).1
  have Lb:(R8 (Mv enc es))[q]? =some { key:=enc p.1,val:= .int .i64 p.2,born:=q }:=by rw [Mu];simp [Mv,hq]
  have hnd:((R8 (Mv enc es)).toList.map (·.born)).Nodup:=by
   have:(R8 (Mv enc es)).toList.map (·.born)=List.range (Mv enc es).length:=by
    apply List.ext_getElem?
    intro k
    rw [List.getElem?_map,Array.getElem?_toList,Mu]
    by_cases hk:k<(Mv enc es).length
    · rw [List.getElem?_range hk,List.getElem?_eq_getElem hk];rfl
    · rw [List.getElem?_eq_none (Nat.le_of_not_lt hk),List.getElem?_eq_none (by simp at hk ⊢;omega)];rfl
   rw [this];exact List.nodup_range
  have hfind:(R8 (Mv enc es)).find? (fun e=>e.born==q)=some { key:=enc p.1,val:= .int .i64 p.2,born:=q }:=by
   rw [←Array.find?_toList]
   exact find_born { key:=enc p.1,val:= .int .i64 p.2,born:=q } _ hnd (List.mem_iff_getElem?.2 ⟨q,by rw [Array.getElem?_toList];exact Lb⟩)
  refine TO.val (v:= .tuple #[enc p.1,.int .i64 p.2]) (w':=w) ?_ ?_
  ·
   have:(Instr.entry (.pointer (some ⟨it,0,none⟩))).run P w= .ok (.tuple #[enc p.1,.int .i64 p.2]) w:=by
    have hb:(seen++[q]).toArray.back? =some q:=by simp
    simp only [Instr.entry,getObj,Sem.run_bind,Sem.run,hit,hh,Result.andThen,hb,bne_self_eq_false,Bool.false_eq_true,if_false,hfind]
    rfl
   simp [execOp,ho,h1,this]
  ·
   refine hK _ _ _ _ k ⟨M,by rw [CF];exact hsz,by rw [put_defers];exact hdf,?_,hI⟩
   intro s p hp
   simp only [List.lookup] at hp
   by_cases hs:s=d
   · subst hs;simp at hp;subst hp;rw [hd,B4 (by rw [hsz];exact hn)];exact ⟨_,rfl,rfl,rfl,trivial⟩
   ·
    rw [show (s==d)=false by simpa using hs] at hp
    rw [hd,CD hs];exact he s p hp
end
section
variable {P:Program} {L:Lg P}
end
section
variable {P:Program} {L:Lg P} {n:Fm} {fz:Nat} {E:Env} {M0:Av} {w0:World} {S:Nat→Prop} {rs:List BS} {o:Oper}
theorem Ld (w:World) (A:Option Addr) (t ty e:TypeId) (i:TypeInfo) (z:Value) (ht:P.underlying t=some (.slice e)) (hi:P.info? e=some i) (hz:i.zero=some z)
  (a:Addr) (n c:Nat) (news:List Value) (hl:news.length=n*i.size) (hnews:∀j v,news[j]? =some v→w.cell? (a.add j)=some v)
  (h0:0<n) (h63:(n:Int)≤9223372036854775807) (h48:n*i.bytes≤281474976710656):
  (Builtin.append_ #[t, t] ty #[.slice A 0 0, .slice (some a) n c]).run P w =
   .ok (.slice (some ⟨w.heap.size,0,none⟩) n (grownCap w n 0 e)) (w.drew.alloc (.cells (news.toArray++Builtin.zeroCells z.cells (grownCap w n 0 e-n)) e)):=by
 cases A with
 |none=>exact run_append_nil (w:=w) t ty e i z ht hi hz a n c news hl hnews h0 h63 h48
 |some b=>
  have:=run_append_grow (w:=w) t ty e i z ht hi hz b 0 0 [] (by simp) (by simp) a n c news hl hnews (by omega) (by simpa using h63) (by rw [Nat.zero_add,nextslicecap_zero h0];exact h48)
  simpa using this
theorem WK {M:Av} {w:World} {t ty e:TypeId} {sz bytes:Nat} {zs:List Value} {rows:List (List Pr)} {u:Value} {j:Nat} (A:Option Addr) (ht:P.underlying t=some (.slice e)) (hz:Aw P e=some sz) (hby:Cm P e=some bytes) (Dy:Bn P e=some zs) (hzl:zs.length=sz) (hone:zs.all (·.oneCell')=true) (hsz:0<sz)
  (h:Bl M0 w0 S rs M w) (hj:rs[j]? =some Bw) (hu:(slice sz rows).h M w u) (hpos:0<rows.length) (FE:rows.length≤maxLen) (hfit:rows.length*bytes≤140737488355328):
  ∃v' w' M',(Builtin.append_ #[t,t] ty #[.slice A 0 0,u]).run P w= .ok v' w'∧(lens rows.length).h M' w' v'∧Ext M w M' w'∧Bl M0 w0 S (rs.set j (C8 e sz rows v')) M' w':=by
 unfold Aw at hz
 unfold Cm at hby
 unfold Bn at Dy
 cases hi:P.info? e with
 |none=>rw [hi] at hz;cases hz
 |some i=>
  rw [hi] at hz hby Dy
  simp only [Option.map_some,Option.some.injEq,Option.map_eq_some_iff] at hz hby Dy
  obtain ⟨z,QV,Dy⟩:=Dy
  have TY:z.cells.size=sz:=by rw [←hzl,←Dy];simp
  obtain ⟨A',c',rfl,Yg,O4,Vu,El⟩:=hu
  have Iu:(slice sz rows).h M w (.slice A' rows.length c'):=⟨A',c',rfl,Yg,O4,Vu,El⟩
  obtain ⟨Ke,rfl⟩:∃Ke,A'=some Ke:=by
   obtain ⟨_,b,hb,_⟩:=El 0 _ (List.getElem?_eq_getElem hpos)
   exact ⟨b,hb⟩
  obtain ⟨news,hfl,hcell⟩:=Ek hsz Iu
  have hrun:=Ld (P:=P) w A t ty e i z ht hi QV Ke rows.length c' news (by rw [hz];exact hfl.1) (fun k u hk=>(hcell k u hk).1) hpos (by unfold maxLen at FE;omega) (by rw [hby];omega)
  generalize hcap:grownCap w rows.length 0 e=cap at hrun
  have hge:rows.length≤cap:=by rw [←hcap];exact grownCap_ge _ _ _ _
  have hle:cap≤maxLen:=by rw [←hcap];exact grownCap_le_maxLen _ _ _ _ FE
  generalize Nv:Builtin.zeroCells z.cells (cap-rows.length)=zc at hrun
  have hzs:zc.size=(cap-rows.length)*sz:=by rw [←Nv,size_zeroCells,TY]
  have kP:∀c∈zc.toList,c.oneCell'=true:=by rw [←Nv];exact D0 Dy hone
  have hb:Below w.heap.size w (w.drew.alloc (.cells (news.toArray++zc) e)):=((Below.refl _ _).drew).alloc (Nat.le_refl _) _
  have h2:=Ext.below (M:=M) hb
  have D3:Ext M w (fun b o=>M b o∨b=w.heap.size) (w.drew.alloc (.cells (news.toArray++zc) e)):=by
   refine ⟨h2.size,fun a v hc hm=>⟨fun hx=> ?_,(h2.keep a v hc hm).2⟩,fun b o ho hp hm=>⟨fun hx=> ?_,(h2.obj b o ho hp hm).2⟩⟩
   ·
    rcases hx with hx|hx
    · exact hm hx
    · have:=D6 hc;omega
   ·
    rcases hx with hx|hx
    · exact hm hx
    · subst hx;simp at ho
  have hs1:(w.drew.alloc (.cells (news.toArray++zc) e)).heap.size=w.heap.size+1:=by simp
  refine ⟨_,_,fun b o=>M b o∨b=w.heap.size,hrun,⟨_,_,rfl⟩,D3,?_⟩
  refine h.replace hj D3 hb.os hb.tape hb.output (fun k hk _=>hb.block k hk) rfl (fun b o hm _=> .inl hm) (fun b o hx=> ?_) ?_ rfl (fun b hbk=> ?_)
  ·
   rcases hx with hx|hx
   · have:=h.bd _ _ hx;omega
   · omega
  ·
   refine ⟨w.heap.size,cap,zc.toList,rfl,hge,hle,by simpa using hzs,fun o=> .inr rfl,news++zc.toList,?_,?_,?_⟩
   ·
    have hh:(w.drew.alloc (.cells (news.toArray++zc) e)).heap[w.heap.size]? =some (.cells (news.toArray++zc) e (0,0)):=heap_alloc_new w.drew _
    rw [hh];simp
   · exact ((hfl.st D3).hl hsz).app (LA _ _ _)
   ·
    intro c hc
    rcases List.mem_append.1 hc with hc|hc
    · exact hfl.2.1 c hc
    · exact kP c hc
  ·
   have EH:some w.heap.size=some b:=hbk
   injection EH with e1
   subst e1
   exact ⟨by rw [hs1];omega,.inr (Nat.le_refl _)⟩
theorem Eo {t e:TypeId} {x y:Operand} {sz':Nat} {sz bytes d:Nat} {zs:List Value} {rows:List (List Pr)} {j:Nat} (hg:o.guard=none) (hd:o.dst=some d) (hn:d<n) (ho:o.op= .call { callee:= .builtin .append,args:= #[x,y],argTypes:= #[t,t] })
  (ht:P.underlying t=some (.slice e)) (hz:Aw P e=some sz) (hby:Cm P e=some bytes) (Dy:Bn P e=some zs) (hzl:zs.length=sz) (hone:zs.all (·.oneCell')=true) (hsz:0<sz)
  (hx:VL E x (full sz' [])) (hy:VL E y (slice sz rows)) (hpos:0<rows.length) (FE:rows.length≤maxLen) (hfit:rows.length*bytes≤140737488355328):E6 P M0 w0 S n j (SR.c Bw) ⟨d,C8 e sz rows⟩ o E (lens rows.length):=by
 refine ⟨hg,fun M w a rs H_ he hI hj=> ?_⟩
 have h2:=hy.ev he (by simp [ho,Op.operands,Call.operands])
 obtain ⟨_,A,h1⟩:=hx.ev he (by simp [ho,Op.operands,Call.operands])
 simp only [List.length_nil] at h1
 obtain ⟨v',w',M',hrun,h3,h4,h5⟩:=WK A (ty:=o.type) ht hz hby Dy hzl hone hsz hI hj h2 hpos FE hfit
 have DT:(execOp a.eval o).run P w= .ok (.value v') w':=by simp [execOp,ho,resolve,invoke,builtin,h1,hrun]
 rw [DT]
 refine ⟨M',h3,h4,?_⟩
 have:(SR.at_ (a.put o.dst v') ⟨d,C8 e sz rows⟩)=C8 e sz rows v':=by unfold SR.at_ Slot.val;dsimp only;rw [hd,B4 (by rw [H_];exact hn)]
 rw [this];exact h5
theorem D9 {I:Ci} {t e:TypeId} {x:Operand} {A:Option Addr} {m cap:Nat} (ho:o.op= .call { callee:= .builtin .len,args:= #[x],argTypes:= #[t] }) (ht:P.underlying t=some (.slice e)) (hx:VL E x (is (.slice A m cap))):Af P I o E (int m):=
 Af.same fun M w a he _=>by
  have h1:a.eval x=_:=hx.ev he (by simp [ho,Op.operands,Call.operands])
  exact ⟨.int .i64 m,by simp [execOp,ho,resolve,invoke,builtin,Builtin.len_,h1,run_underlying ht,goInt],rfl⟩
theorem Fo {I:Ci} {t e:TypeId} {x y:Operand} {k:IntKind} {h:Int} {sz b m cap:Nat} (ho:o.op= .slice t x none (some y) none) (ht:P.underlying t=some (.slice e)) (hz:Aw P e=some sz) (hx:VL E x (is (.slice (some ⟨b,0,none⟩) m cap))) (hy:VL E y (is (.int k h))) (h0:0≤h) (hl:h≤m) (hc:m≤cap) (h1m:0<cap):
  Af P I o E (is (.slice (some ⟨b,0,none⟩) h.toNat cap)):=
 Af.same fun M w a he _=>by
  have h1:a.eval x=_:=hx.ev he (by simp [ho,Op.operands])
  have h3:a.eval y=_:=hy.ev he (by simp [ho,Op.operands])
  have hb:h≤(cap:Int):=by omega
  refine ⟨_,?_,rfl⟩
  simp [execOp,ho,h1,h3,Instr.sliceAt,Instr.slice,run_underlying ht,Instr.sliceBounds,Instr.sliceBound,asIntOf,h0,hb,Bm hz]
  intro _;rfl
theorem Bz {I:Ci} {t e:TypeId} {x y:Operand} {k:IntKind} {l:Int} {sz b m cap:Nat} (ho:o.op= .slice t x (some y) none none) (ht:P.underlying t=some (.slice e)) (hz:Aw P e=some sz) (hx:VL E x (is (.slice (some ⟨b,0,none⟩) m cap))) (hy:VL E y (is (.int k l))) (h0:0≤l) (hl:l<m) (hc:m≤cap):
  Af P I o E (is (.slice (some ⟨b,l.toNat*sz,none⟩) (m-l.toNat) (cap-l.toNat))):=
 Af.same fun M w a he _=>by
  have h1:a.eval x=_:=hx.ev he (by simp [ho,Op.operands])
  have h3:a.eval y=_:=hy.ev he (by simp [ho,Op.operands])
  have hb:l≤(m:Int):=by omega
  have hne:¬cap=l.toNat:=by omega
  refine ⟨_,?_,rfl⟩
  simp [execOp,ho,h1,h3,Instr.sliceAt,Instr.slice,run_underlying ht,Instr.sliceBounds,Instr.sliceBound,asIntOf,h0,hb,Bm hz,hne,Cv]
theorem ZK {M:Av} {w:World} {zs:List Value} {z:Array Value} {k:Nat} (hz:z.toList=zs) (h0:0<zs.length):HL M w (List.replicate k (zs.map is)).flatten (Builtin.zeroCells z k).toList:=by
 have hlr:∀r∈List.replicate k (zs.map is),r.length=zs.length:=fun r hr=>by rw [List.eq_of_mem_replicate hr,List.length_map]
 have hfl:=CO hlr
 rw [List.length_replicate] at hfl
 have hzs:z.size=zs.length:=by rw [←hz];simp
 refine Th (by rw [Array.length_toList,size_zeroCells,hfl,hzs]) fun i p hi=> ?_
 have E3:i<k*zs.length:=by rw [←hfl];rcases Nat.lt_or_ge i (List.replicate k (zs.map is)).flatten.length with h|h;exact h;rw [List.getElem?_eq_none h] at hi;cases hi
 have hq:i/zs.length<k:=Nat.div_lt_of_lt_mul (by rw [Nat.mul_comm];exact E3)
 have hm:i % zs.length<zs.length:=Nat.mod_lt _ h0
 have he:i/zs.length*zs.length+i % zs.length=i:=by rw [Nat.mul_comm];exact Nat.div_add_mod i _
 rw [←he,HU hlr (by rw [List.getElem?_replicate,if_pos hq]) hm,List.getElem?_map,List.getElem?_eq_getElem hm] at hi
 simp only [Option.map_some,Option.some.injEq] at hi
 subst hi
 refine ⟨zs[i % zs.length],?_,rfl⟩
 have hzl:i<k*z.size:=by rw [hzs];exact E3
 simp only [Builtin.zeroCells,Array.toList_map,Array.toList_range,List.getElem?_map]
 rw [List.getElem?_range hzl]
 subst hz
 simp only [Option.map_some,Option.some.injEq]
 have hm':i % z.size<z.size:=by rw [hzs];exact hm
 rw [getElem!_pos z _ hm',←Array.getElem_toList]
 congr 1
theorem Mx {t e:TypeId} {x:Operand} {j:Nat} {new:Bool} {b off m cap sz:Nat} {zs:List Value} {T:TypeId} {ps ps':List Pr} (hg:o.guard=none) (ho:o.op= .call { callee:= .builtin .clear,args:= #[x],argTypes:= #[t] })
  (ht:P.underlying t=some (.slice e)) (hz:Aw P e=some sz) (Dy:Bn P e=some zs) (hzl:zs.length=sz) (hone:zs.all (·.oneCell')=true) (hsz:0<sz) (hx:VL E x (is (.slice (some ⟨b,off,none⟩) m cap))) (hm:0<m)
  (hl:off+m*sz≤ps.length) (hps:ps.take off++(List.replicate m (zs.map is)).flatten++ps.drop (off+m*sz)=ps'):E6 P M0 w0 S n j (SR.c (AA new b T ps)) (SR.c (AA new b T ps')) o E any:=by
 refine ⟨hg,fun M w a rs H_ he hI hj=> ?_⟩
 have h1:a.eval x=_:=hx.ev he (by simp [ho,Op.operands,Call.operands])
 unfold Bn at Dy
 cases hi:P.info? e with
 |none=>rw [hi] at Dy;cases Dy
 |some i=>
  rw [hi] at Dy
  simp only [Option.map_eq_some_iff] at Dy
  obtain ⟨z,QV,Dy⟩:=Dy
  have TY:z.cells.size=sz:=by rw [←hzl,←Dy];simp
  obtain ⟨⟨_,cs,h4,h5,h6⟩,_⟩:=hI.hold _ (List.mem_of_getElem? hj)
  have YN:=h5.length
  have hzs:(Builtin.zeroCells z.cells m).size=m*sz:=by rw [size_zeroCells,TY]
  have h3:∀c∈(Builtin.zeroCells z.cells m).toList,c.oneCell'=true:=D0 Dy hone
  have hrun:(storeCells ⟨b,off,none⟩ (Builtin.zeroCells z.cells m).toList 0).run P w= .ok () (w.setRow b (cs.take off++(Builtin.zeroCells z.cells m).toList++cs.drop (off+m*sz)).toArray):=by
   have:=run_storeCells_at (P:=P) b off T (Builtin.zeroCells z.cells m).toList 0 cs.toArray w h4 (by simp [hzs];omega) h3
   simpa [hzs] using this
  obtain ⟨m',rfl⟩:∃m',m=m'+1:=⟨m-1,by omega⟩
  have DT:(execOp a.eval o).run P w= .ok (.value (.tuple #[])) (w.setRow b (cs.take off++(Builtin.zeroCells z.cells (m'+1)).toList++cs.drop (off+(m'+1)*sz)).toArray):=by
   simp [execOp,ho,h1,resolve,invoke,builtin,Builtin.clear_,run_underlying ht,zeroValue,typeInfo,hi,QV,hrun]
  rw [DT]
  obtain ⟨h7, h8⟩ := Bl.write (qs := ps') (cs := cs.take off ++ (Builtin.zeroCells z.cells (m' + 1)).toList ++ cs.drop (off + (m' + 1) * sz)) hI hj (by rw [← hps]; exact (((h5.take off).app (ZK Dy (by omega)))).app (h5.drop (off + (m' + 1) * sz)))
   (fun c hc=>by
    simp only [List.mem_append] at hc
    rcases hc with (hc|hc)|hc
    · exact h6 c (List.mem_of_mem_take hc)
    · exact h3 c hc
    · exact h6 c (List.mem_of_mem_drop hc))
  exact ⟨M,trivial,h8,h7⟩
theorem My {β:Type} {f:β→List Pr} {l:List β} {qs:List Pr} {sz:Nat} (hf:∀x,(f x).length=sz) {i:Nat} {x:β} (h:l[i]? =some x):((((l.map f).flatten++qs).drop (i*sz)).take sz)=f x:=by
 have hl:∀r∈l.map f,r.length=sz:=fun r hr=>by obtain ⟨y,_,rfl⟩:=List.mem_map.1 hr;exact hf y
 have hi:i<l.length:=by rcases Nat.lt_or_ge i l.length with h'|h';exact h';rw [List.getElem?_eq_none h'] at h;cases h
 have hfl:=CO hl
 rw [List.length_map] at hfl
 have hle:(i+1)*sz≤l.length*sz:=Nat.mul_le_mul_right sz hi
 rw [Nat.add_mul,Nat.one_mul] at hle
 apply List.ext_getElem?
 intro k
 rw [List.getElem?_take]
 split
 ·
  rename_i hk
  rw [List.getElem?_drop,List.getElem?_append_left (by rw [hfl];omega),HU hl (by rw [List.getElem?_map,h];rfl) hk]
 ·
  rename_i hk
  rw [List.getElem?_eq_none (by rw [hf];omega)]
theorem Kk {β:Type} {f:β→List Pr} {sz:Nat} (hf:∀x,(f x).length=sz):∀{l:List β} {qs:List Pr} {i:Nat} {x:β},i<l.length→((l.map f).flatten++qs).take (i*sz)++f x++((l.map f).flatten++qs).drop (i*sz+sz)=((l.set i x).map f).flatten++qs
 |[],_,_,_,h=>by simp at h
 |a::l,qs,0,x,_=>by
  simp only [List.map_cons,List.flatten_cons,Nat.zero_mul,List.take_zero,List.nil_append,Nat.zero_add,List.set_cons_zero]
  rw [←hf a,List.append_assoc,List.drop_left,List.append_assoc]
 |a::l,qs,i+1,x,h=>by
  have ih:=Kk hf (l:=l) (qs:=qs) (i:=i) (x:=x) (by simpa using h)
  simp only [List.map_cons,List.flatten_cons,List.set_cons_succ]
  have e1:(i+1)*sz=(f a).length+i*sz:=by rw [hf a,Nat.add_mul];omega
  rw [List.append_assoc,List.append_assoc,e1,List.take_append,List.take_of_length_le (by omega),show (f a).length+i*sz-(f a).length=i*sz by omega,show (f a).length+i*sz+sz=(f a).length+(i*sz+sz) by omega,List.drop_append,List.drop_of_length_le (by omega),show (f a).length+(i*sz+sz)-(f a).length=i*sz+sz by omega,List.nil_append,List.append_assoc (f a) _ qs,←ih]
  simp only [List.append_assoc]
theorem TO.LJ {ops:Array Oper} {r:List Oper} {Q:Exit→Act→World→Prop} {e:TypeId} {sz:Nat} {rows:List (List Pr)} {v:Value} (j:Nat) (hj:rs[j]? =some (C8 e sz rows v))
  (k:∀(b cap:Nat) (spare:List Value),v= .slice (some ⟨b,0,none⟩) rows.length cap→rows.length≤cap→cap≤maxLen→spare.length=(cap-rows.length)*sz→TO P n ops r E (Hp M0 w0 S (rs.set j (AA true b e (rows.flatten++spare.map is)))) Q):TO P n ops r E (Hp M0 w0 S rs) Q:=
 fun m hl a w hs=>let ⟨b,cap,spare,h1,h2,h3,h4,h5⟩:=hs.LJ j hj;k b cap spare h1 h2 h3 h4 m hl a w h5
theorem BU {β:Type} {f:β→List Pr} {l:List β} {qs:List Pr} {sz:Nat} (hf:∀x,(f x).length=sz):((l.map f).flatten++qs).length=l.length*sz+qs.length:=by
 rw [List.length_append,CO (sz:=sz) (fun r hr=>by obtain ⟨y,_,rfl⟩:=List.mem_map.1 hr;exact hf y),List.length_map]
theorem BF {β:Type} {f:β→List Pr} {l:List β} {sz:Nat} (hf:∀x,(f x).length=sz):∀r∈l.map f,r.length=sz:=fun r hr=>by obtain ⟨y,_,rfl⟩:=List.mem_map.1 hr;exact hf y
theorem SQ {β:Type} {f:β→List Pr} {sz:Nat} (hf:∀x,(f x).length=sz) {l:List β} {qs:List Pr} {i:Nat} {x:β} (h:i<l.length):((l.map f).flatten++qs).take (0+((i:Nat):Int).toNat*sz)++f x++((l.map f).flatten++qs).drop (0+((i:Nat):Int).toNat*sz+sz)=((l.set i x).map f).flatten++qs:=by
 rw [Nat.zero_add,Int.toNat_natCast];exact Kk hf h
theorem St.Qu {b cap sz:Nat} {e:TypeId} {rows:List (List Pr)} {qs:List Pr} (j d:Nat) {p:Pr} (hj:rs[j]? =some (AA true b e (rows.flatten++qs))) (hd:E.lookup d=some p) (hp:Pr.le p (is (.slice (some ⟨b,0,none⟩) rows.length cap)))
  (hl:∀r∈rows,r.length=sz) (hc:rows.length≤cap) (hm:cap≤maxLen) (hq:qs.length=(cap-rows.length)*sz)
  {a:Act} {w:World} (h:St n E (Hp M0 w0 S rs) a w):St n ((d,Ay (.slice (some ⟨b,0,none⟩) rows.length cap) (slice sz rows))::E) (Hp M0 w0 S (rs.set j (BR e sz (.slice (some ⟨b,0,none⟩) rows.length cap)))) a w:=by
 obtain ⟨M,h1,h2,h3,h4⟩:=h
 obtain ⟨M',h5,h6,h7⟩:=Bl.ZG h4 hj hl hc hm hq
 refine ⟨M',h1,h2,fun s q hs=> ?_,h6⟩
 simp only [List.lookup] at hs
 split at hs
 ·
  rename_i e1
  have:s=d:=by simpa using e1
  subst this
  simp only [Option.some.injEq] at hs
  subst hs
  have h8:=hp _ _ _ (h3 _ _ hd)
  exact ⟨h8,by rw [show a.tmps.getD s undef=_ from h8];exact h7⟩
 · exact q.st _ _ _ _ _ h5 (h3 s q hs)
theorem Tr.Qu {Q:Exit→Act→World→Prop} {c:Code} {b cap sz:Nat} {e:TypeId} (rows:List (List Pr)) {qs:List Pr} (j d:Nat) {p:Pr} (hj:rs[j]? =some (AA true b e (rows.flatten++qs))) (hd:E.lookup d=some p) (hp:Pr.le p (is (.slice (some ⟨b,0,none⟩) rows.length cap)))
  (hl:∀r∈rows,r.length=sz) (hc:rows.length≤cap) (hm:cap≤maxLen) (hq:qs.length=(cap-rows.length)*sz)
  (k:Tr L n ((d,Ay (.slice (some ⟨b,0,none⟩) rows.length cap) (slice sz rows))::E) (Hp M0 w0 S (rs.set j (BR e sz (.slice (some ⟨b,0,none⟩) rows.length cap)))) c Q):Tr L n E (Hp M0 w0 S rs) c Q:=
 Tr.conv (fun _ _ hs=>hs.Qu j d hj hd hp hl hc hm hq) k
theorem Fin.Qu {Q:Exit→Act→World→Prop} {x:Exit} {b cap sz:Nat} {e:TypeId} (rows:List (List Pr)) {qs:List Pr} (j d:Nat) {p:Pr} (hj:rs[j]? =some (AA true b e (rows.flatten++qs))) (hd:E.lookup d=some p) (hp:Pr.le p (is (.slice (some ⟨b,0,none⟩) rows.length cap)))
  (hl:∀r∈rows,r.length=sz) (hc:rows.length≤cap) (hm:cap≤maxLen) (hq:qs.length=(cap-rows.length)*sz)
  (k:Fin n ((d,Ay (.slice (some ⟨b,0,none⟩) rows.length cap) (slice sz rows))::E) (Hp M0 w0 S (rs.set j (BR e sz (.slice (some ⟨b,0,none⟩) rows.length cap)))) Q x):Fin n E (Hp M0 w0 S rs) Q x:=
 Fin.conv (fun _ _ hs=>hs.Qu j d hj hd hp hl hc hm hq) k
end
section
variable {P:Program} {L:Lg P} {n:Fm} {fz:Nat} {E:Env} {M0:Av} {w0:World} {S:Nat→Prop} {rs:List BS} {o:Oper} {g:Func} {M1:Av} {w1:World}
def HV (T:TypeId) (ps:List Pr) (v:Value):BS:=match v with| .pointer (some a)=>AA true a.block T ps|_=>Bw
theorem OM {d j:Nat} {T:TypeId} {zs:List Value} (hg:o.guard=none) (hd:o.dst=some d) (hn:d<n) (ho:o.op= .alloc T) (hz:Bn P T=some zs) (h1':zs.all (·.oneCell')=true):
  E6 P M0 w0 S n j (SR.c Bw) ⟨d,HV T (zs.map is)⟩ o E (Cp.ex fun b=>ptr b 0):=by
 refine ⟨hg,fun M w a rs H_ he hI hj=> ?_⟩
 have h1:∀c∈zs,c.oneCell'=true:=fun c hc=>List.all_eq_true.1 h1' c hc
 obtain ⟨z,JA,Vp⟩:=Qg hz w
 have hrun:(execOp a.eval o).run P w= .ok (.value (.pointer (some ⟨w.heap.size,0,none⟩))) (w.alloc (.cells zs.toArray T)):=by simp [execOp,ho,Instr.alloc,JA,newVar,newRow,←Vp]
 rw [hrun]
 have hb:Below w.heap.size w (w.alloc (.cells zs.toArray T)):=(Below.refl _ _).alloc (Nat.le_refl _) _
 have h2:=Ext.below (M:=M) hb
 have D3:Ext M w (fun b o=>M b o∨b=w.heap.size) (w.alloc (.cells zs.toArray T)):=by
  refine ⟨h2.size,fun a v hc hm=>⟨fun hx=> ?_,(h2.keep a v hc hm).2⟩,fun b o ho hp hm=>⟨fun hx=> ?_,(h2.obj b o ho hp hm).2⟩⟩
  ·
   rcases hx with hx|hx
   · exact hm hx
   · have:=D6 hc;omega
  ·
   rcases hx with hx|hx
   · exact hm hx
   · subst hx;simp at ho
 have hs1:(w.alloc (.cells zs.toArray T)).heap.size=w.heap.size+1:=by simp
 have Lb:(SR.at_ (a.put o.dst (.pointer (some ⟨w.heap.size,0,none⟩))) ⟨d,HV T (zs.map is)⟩)=AA true w.heap.size T (zs.map is):=by unfold SR.at_ Slot.val;dsimp only;rw [hd,B4 (by rw [H_];exact hn)];rfl
 refine ⟨fun b o=>M b o∨b=w.heap.size,⟨_,rfl⟩,D3,?_⟩
 rw [Lb]
 refine hI.replace hj D3 hb.os hb.tape hb.output (fun k hk _=>hb.block k hk) rfl (fun b o hm _=> .inl hm) (fun b o hx=> ?_) ?_ rfl (fun b hbk=> ?_)
 ·
  rcases hx with hx|hx
  · have:=hI.bd _ _ hx;omega
  · omega
 · refine ⟨fun o=> .inr rfl,zs,heap_alloc_new w _,LA _ _ _,h1⟩
 ·
  have EH:some w.heap.size=some b:=hbk
  injection EH with e1
  subst e1
  exact ⟨by rw [hs1];omega,.inr (Nat.le_refl _)⟩
theorem ON {t:TypeId} {s:Tmp} {y:Operand} {j m:Nat} {T:TypeId} {ps qs:List Pr} (hg:o.guard=none) (hd:o.dst=none) (ho:o.op= .store t (.tmp s) y) (hx:E.lookup s=some (Cp.ex fun b=>ptr b 0)) (hy:VL E y (Di qs))
  (hz:Aw P t=some m) (hm:qs.length=m) (hl:ps.length=m):E6 P M0 w0 S n j ⟨s,HV T ps⟩ ⟨s,HV T qs⟩ o E any:=by
 refine ⟨hg,fun M w a rs hsz he hI hj=> ?_⟩
 have hxv:VL E (.tmp s) (Cp.ex fun b=>ptr b 0):=⟨_,hx,Pr.le_refl _⟩
 obtain ⟨b,h1'⟩:=hxv.ev he (show (Operand.tmp s)∈o.op.operands.toList by simp [ho,Op.operands])
 have h1:a.eval (.tmp s)= .pointer (some ⟨b,0,none⟩):=h1'
 have h1t:a.tmps.getD s undef= .pointer (some ⟨b,0,none⟩):=h1
 have hj':rs[j]? =some (AA true b T ps):=by
  rw [hj];show some (HV T ps (a.tmps.getD s undef))=_;rw [h1t];rfl
 obtain ⟨h2,h3⟩:=hy.ev he (show y∈o.op.operands.toList by simp [ho,Op.operands])
 obtain ⟨⟨_,cs,h4,h5,h6⟩,_⟩:=hI.hold _ (List.mem_of_getElem? hj')
 have YN:=h5.length
 have bg:=h2.length
 have hcells:(a.eval y).cells.size=m:=by rw [←hm,←bg];simp
 have hrun:(storeCells ⟨b,0,none⟩ (a.eval y).cells.toList 0).run P w= .ok () (w.setRow b (cs.take 0++(a.eval y).cells.toList++cs.drop (0+m)).toArray):=by
  have:=run_storeCells_at (P:=P) b 0 T (a.eval y).cells.toList 0 cs.toArray w h4 (by simp;omega) h3
  simpa [hcells] using this
 have kT:cs.drop (0+m)=[]:=List.drop_eq_nil_of_le (by omega)
 rw [kT,List.take_zero,List.nil_append,List.append_nil] at hrun
 have DT:(execOp a.eval o).run P w= .ok .skip (w.setRow b (a.eval y).cells.toList.toArray):=by
  simp only [execOp,ho,h1,Instr.storeAt,Instr.sureAddr,storeVar]
  simp [Bm hz,hcells,hrun]
 rw [DT]
 obtain ⟨h7,h8⟩:=Bl.write (qs:=qs) (cs:=(a.eval y).cells.toList) hI hj' h2 h3
 refine ⟨M,trivial,h8,?_⟩
 have Lb:(SR.at_ (a.put o.dst undef) ⟨s,HV T qs⟩)=AA true b T qs:=by
  rw [hd];show HV T qs (a.tmps.getD s undef)=_;rw [h1t];rfl
 rw [Lb];exact h7
theorem Fin.iA {Q:Exit→Act→World→Prop} {x:Exit} (s j:Nat) {v:Value} {f:Value→BS} (g:Nat→BS) (hs:E.lookup s=some (Ay v (Cp.ex fun b=>ptr b 0))) (hi:rs[j]? =some (f v)) (hf:∀b,f (.pointer (some ⟨b,0,none⟩))=g b)
  (k:∀b,Fin n ((s,ptr b 0)::E) (Hp M0 w0 S (rs.set j (g b))) Q x):Fin n E (Hp M0 w0 S rs) Q x:=by
 intro a w hst
 obtain ⟨M,h1,h2,he,h4⟩:=hst
 obtain ⟨h5,b,h6⟩:=he s _ hs
 have hv:v= .pointer (some ⟨b,0,none⟩):=by rw [←h5];exact h6
 have hj:rs.set j (g b)=rs:=by
  have hjl:j<rs.length:=by rcases Nat.lt_or_ge j rs.length with h|h;exact h;rw [List.getElem?_eq_none h] at hi;cases hi
  rw [←hf b,←hv]
  rw [List.getElem?_eq_getElem hjl] at hi
  simp at hi
  rw [←hi,List.set_getElem_self]
 refine k b a w ⟨M,h1,h2,?_,by rw [hj];exact h4⟩
 intro t q hq
 simp only [List.lookup] at hq
 by_cases ht:t=s
 · subst ht;simp at hq;subst hq;exact h6
 · rw [show (t==s)=false by simpa using ht] at hq;exact he t q hq
theorem PW {β:Type} {f:β→List Pr} {sz:Nat} (hf:∀x,(f x).length=sz) {z:List Pr} (hz:z.length=sz) {l:List β} {qs:List Pr} {i m:Nat} (hm:m=l.length-((i:Nat):Int).toNat) (h:i≤l.length):
  ((l.map f).flatten++qs).take (((i:Nat):Int).toNat*sz)++(List.replicate m z).flatten++((l.map f).flatten++qs).drop (((i:Nat):Int).toNat*sz+m*sz)=((l.take i).map f).flatten++(List.replicate (l.length-i) z).flatten++qs:=by
 rw [Int.toNat_natCast] at hm ⊢;subst hm
 have kU:∀r∈(l.take i).map f,r.length=sz:=BF hf
 have e1:i*sz+(l.length-i)*sz=((l.map f).flatten).length:=by rw [CO (BF hf),List.length_map,←Nat.add_mul];congr 1;omega
 have e2:(l.map f).flatten=((l.take i).map f).flatten++((l.drop i).map f).flatten:=by rw [←List.flatten_append,←List.map_append,List.take_append_drop]
 have e3:(((l.take i).map f).flatten).length=i*sz:=by rw [CO kU,List.length_map,List.length_take];congr 1;omega
 rw [e1,List.drop_left]
 congr 2
 rw [e2,List.append_assoc,←e3,List.take_left]
end
section
variable {P:Program} {L:Lg P} {n:Fm} {fz:Nat} {E:Env} {M0:Av} {w0:World} {S:Nat→Prop} {rs:List BS} {o:Oper}
def Dw (e:TypeId) (sz:Nat) (rows:List (List Pr)) (v:Value):BS where
 Iv:=match v with| .slice (some a) _ _=>some a.block|_=>none
 new:=true
 h M w:=(rows=[]∧v= .slice none 0 0)∨(C8 e sz rows v).h M w
 st M w M' w' he hk h:=h.imp id fun h=>(C8 e sz rows v).st M w M' w' he hk h
theorem ZL {M:Av} {w:World} {t ty e:TypeId} {sz bytes:Nat} {zs:List Value} {rows A1:List (List Pr)} {v u:Value} {j:Nat} (ht:P.underlying t=some (.slice e)) (hz:Aw P e=some sz) (hby:Cm P e=some bytes) (Dy:Bn P e=some zs) (hzl:zs.length=sz) (hone:zs.all (·.oneCell')=true) (hsz:0<sz)
  (h:Bl M0 w0 S rs M w) (hj:rs[j]? =some (Dw e sz rows v)) (hl:∀r∈rows,r.length=sz) (hu:(slice sz A1).h M w u) (hpos:0<A1.length) (FE:rows.length+A1.length≤maxLen) (hfit:(rows.length+A1.length)*bytes≤140737488355328):
  ∃v' w' M',(Builtin.append_ #[t,t] ty #[v,u]).run P w= .ok v' w'∧(lens (rows.length+A1.length)).h M' w' v'∧Ext M w M' w'∧Bl M0 w0 S (rs.set j (Dw e sz (rows++A1) v')) M' w':=by
 have hjl:j<rs.length:=by rcases Nat.lt_or_ge j rs.length with h|h;exact h;rw [List.getElem?_eq_none h] at hj;cases hj
 rcases (h.hold _ (List.mem_of_getElem? hj)).1 with ⟨rfl,rfl⟩|ec
 ·
  have h1:=h.Dr (r':=Bw) hj rfl rfl trivial
  have ZM:(rs.set j Bw)[j]? =some Bw:=List.getElem?_set_self hjl
  obtain ⟨v',w',M',hrun,h2,h3,h4⟩:=ZF (ty:=ty) ht hz hby Dy hzl hone hsz h1 ZM hu hpos (by simpa using FE) (by simpa using hfit)
  rw [List.set_set] at h4
  have h5:=h4.Dr (r':=Dw e sz ([]++A1) v') (List.getElem?_set_self hjl) rfl rfl (.inr (h4.hold _ (List.mem_of_getElem? (List.getElem?_set_self hjl))).1)
  rw [List.set_set] at h5
  exact ⟨v',w',M',hrun,by simpa using h2,h3,h5⟩
 ·
  obtain ⟨b,cap,spare,rfl,hnc,hcm,hsp,Tj⟩:=ec
  have hC:=h.Dr (r':=AA true b e (rows.flatten++spare.map is)) hj rfl rfl Tj
  have hjC:(rs.set j (AA true b e (rows.flatten++spare.map is)))[j]? =some (AA true b e (rows.flatten++spare.map is)):=List.getElem?_set_self hjl
  obtain ⟨⟨hMb,cs,cR,hcs,Qv⟩,bf⟩:=hC.hold _ (List.mem_of_getElem? hjC)
  have hfl:=CO hl
  have Yi:=hcs.length
  rw [List.length_append,hfl,List.length_map,hsp,←Nat.add_mul,show rows.length+(cap-rows.length)=cap by omega] at Yi
  unfold Aw at hz
  unfold Cm at hby
  unfold Bn at Dy
  cases hi:P.info? e with
  |none=>rw [hi] at hz;cases hz
  |some i=>
   rw [hi] at hz hby Dy
   simp only [Option.map_some,Option.some.injEq,Option.map_eq_some_iff] at hz hby Dy
   obtain ⟨z,QV,Dy⟩:=Dy
   have TY:z.cells.size=sz:=by rw [←hzl,←Dy];simp
   obtain ⟨A',c',rfl,Yg,O4,Vu,El⟩:=hu
   have Iu:(slice sz A1).h M w (.slice A' A1.length c'):=⟨A',c',rfl,Yg,O4,Vu,El⟩
   obtain ⟨Ke,rfl⟩:∃Ke,A'=some Ke:=by
    obtain ⟨_,b,hb,_⟩:=El 0 _ (List.getElem?_eq_getElem hpos)
    exact ⟨b,hb⟩
   obtain ⟨news,OO,hcell⟩:=Ek hsz Iu
   have Mz:=OO.1
   have hnews:=OO.hl hsz
   have hT:HL M w rows.flatten (cs.take (rows.length*sz)):=by
    have:=hcs.take (rows.length*sz)
    rwa [←hfl,List.take_left,hfl] at this
   have hne:(.slice (some ⟨b,0,none⟩) (rows++A1).length cap:Value)= .slice (some ⟨b,0,none⟩) (rows.length+A1.length) cap:=by rw [List.length_append]
   by_cases hroom:rows.length+A1.length≤cap
   ·
    have hle:(rows.length+A1.length)*sz≤cap*sz:=Nat.mul_le_mul_right sz hroom
    rw [Nat.add_mul] at hle
    have hrun:=run_append_room (P:=P) (w:=w) t ty e i ht hi b rows.length cap cs.toArray cR Ke A1.length c' news (by rw [hz];exact Mz) (fun k u hk=>(hcell k u hk).1) OO.2.1 hroom (by rw [hz,Mz];simp;omega)
    rw [hz,Mz] at hrun
    have hD:HL M w ((spare.drop (A1.length*sz)).map is) (cs.drop (rows.length*sz+A1.length*sz)):=by
     have:=hcs.drop (rows.length*sz+A1.length*sz)
     have e1:(rows.flatten++spare.map is).drop (rows.length*sz+A1.length*sz)=(spare.drop (A1.length*sz)).map is:=by rw [←hfl,←List.drop_drop,List.drop_left,List.map_drop]
     rwa [e1] at this
    obtain ⟨hW,hX⟩:=Bl.write (qs:=rows.flatten++A1.flatten++(spare.drop (A1.length*sz)).map is) (cs:=cs.take (rows.length*sz)++news++cs.drop (rows.length*sz+A1.length*sz)) hC hjC ((hT.app hnews).app hD) (fun c hc=>by
     simp only [List.mem_append] at hc
     rcases hc with (hc|hc)|hc
     · exact Qv c (List.mem_of_mem_take hc)
     · exact OO.2.1 c hc
     · exact Qv c (List.mem_of_mem_drop hc))
    rw [List.set_set] at hW
    refine ⟨_,_,M,hrun,⟨_,_,rfl⟩,hX,?_⟩
    have hW2 := hW.Dr (r' := Dw e sz (rows ++ A1) (.slice (some ⟨b, 0, none⟩) (rows.length + A1.length) cap)) (List.getElem?_set_self hjl) rfl rfl (.inr ⟨b, cap, spare.drop (A1.length * sz), hne.symm, by rw [List.length_append]; exact hroom, hcm, by
     rw [List.length_drop,hsp,List.length_append,←Nat.sub_mul];congr 1;omega,by
     rw [List.flatten_append];exact (hW.hold _ (List.mem_of_getElem? (List.getElem?_set_self hjl))).1⟩)
    rw [List.set_set] at hW2
    exact hW2
   ·
    have hg:cap<rows.length+A1.length:=by omega
    have holds:∀k u,(cs.take (rows.length*sz))[k]? =some u→w.cell? ((⟨b,0,none⟩:Addr).add k)=some u:=by
     intro k u hk
     have hk2:cs[k]? =some u:=by
      rw [List.getElem?_take] at hk
      split at hk
      · exact hk
      · cases hk
     rw [Cv]
     simp [World.cell?,cR,hk2]
    have hto:(cs.take (rows.length*sz)).length=rows.length*sz:=by rw [List.length_take,Yi];exact Nat.min_eq_left (Nat.mul_le_mul_right sz hnc)
    have hrun:=run_append_grow (P:=P) (w:=w) t ty e i z ht hi QV ⟨b,0,none⟩ rows.length cap (cs.take (rows.length*sz)) (by rw [hz];exact hto) holds Ke A1.length c' news (by rw [hz];exact Mz) (fun k u hk=>(hcell k u hk).1) hg (by unfold maxLen at FE;omega) (by rw [hby];exact growslice_fits hg hfit)
    generalize hcap:grownCap w (rows.length+A1.length) cap e=cap' at hrun
    have hge:rows.length+A1.length≤cap':=by rw [←hcap];exact grownCap_ge _ _ _ _
    have hle:cap'≤maxLen:=by rw [←hcap];exact grownCap_le_maxLen _ _ _ _ FE
    generalize Nv:Builtin.zeroCells z.cells (cap'-(rows.length+A1.length))=zc at hrun
    have hzs:zc.size=(cap'-(rows.length+A1.length))*sz:=by rw [←Nv,size_zeroCells,TY]
    have kP:∀c∈zc.toList,c.oneCell'=true:=by rw [←Nv];exact D0 Dy hone
    generalize eg:((cs.take (rows.length*sz)).toArray++news.toArray++zc)=arr at hrun
    have MR:arr.toList=cs.take (rows.length*sz)++news++zc.toList:=by rw [←eg];simp
    have hb:Below w.heap.size w (w.drew.alloc (.cells arr e)):=((Below.refl _ _).drew).alloc (Nat.le_refl _) _
    have h2:=Ext.below (M:=M) hb
    have D3:Ext M w (fun b o=>M b o∨b=w.heap.size) (w.drew.alloc (.cells arr e)):=by
     refine ⟨h2.size,fun a v hc hm=>⟨fun hx=> ?_,(h2.keep a v hc hm).2⟩,fun b o ho hp hm=>⟨fun hx=> ?_,(h2.obj b o ho hp hm).2⟩⟩
     ·
      rcases hx with hx|hx
      · exact hm hx
      · have:=D6 hc;omega
     ·
      rcases hx with hx|hx
      · exact hm hx
      · subst hx;simp at ho
    have hs1:(w.drew.alloc (.cells arr e)).heap.size=w.heap.size+1:=by simp
    refine ⟨_,_,fun b o=>M b o∨b=w.heap.size,hrun,⟨_,_,rfl⟩,D3,?_⟩
    refine h.replace hj D3 hb.os hb.tape hb.output (fun k hk _=>hb.block k hk) rfl (fun b o hm _=> .inl hm) (fun b o hx=> ?_) ?_ rfl (fun b hbk=> ?_)
    ·
     rcases hx with hx|hx
     · have:=h.bd _ _ hx;omega
     · omega
    ·
     refine .inr ⟨w.heap.size,cap',zc.toList,by rw [List.length_append],by rw [List.length_append];exact hge,hle,by rw [List.length_append];simpa using hzs,fun o=> .inr rfl,arr.toList,?_,?_,?_⟩
     ·
      have hh:(w.drew.alloc (.cells arr e)).heap[w.heap.size]? =some (.cells arr e (0,0)):=heap_alloc_new w.drew _
      rw [hh]
     · rw [MR,List.flatten_append];exact ((hT.st D3).app ((OO.st D3).hl hsz)).app (LA _ _ _)
     ·
      intro c hc
      rw [MR] at hc
      simp only [List.mem_append] at hc
      rcases hc with (hc|hc)|hc
      · exact Qv c (List.mem_of_mem_take hc)
      · exact OO.2.1 c hc
      · exact kP c hc
    ·
     have EH:some w.heap.size=some b:=hbk
     injection EH with e1
     subst e1
     exact ⟨by rw [hs1];omega,.inr (Nat.le_refl _)⟩
theorem OP {t e:TypeId} {x y:Operand} {sz bytes d:Nat} {zs:List Value} {rows A1:List (List Pr)} {v:Value} {p:Pr} {j:Nat} (hg:o.guard=none) (hd:o.dst=some d) (hn:d<n) (ho:o.op= .call { callee:= .builtin .append,args:= #[x,y],argTypes:= #[t,t] })
  (ht:P.underlying t=some (.slice e)) (hz:Aw P e=some sz) (hby:Cm P e=some bytes) (Dy:Bn P e=some zs) (hzl:zs.length=sz) (hone:zs.all (·.oneCell')=true) (hsz:0<sz)
  (hx:VL E x (Ay v p)) (hy:VL E y (slice sz A1)) (hl:∀r∈rows,r.length=sz) (hpos:0<A1.length) (FE:rows.length+A1.length≤maxLen) (hfit:(rows.length+A1.length)*bytes≤140737488355328):E6 P M0 w0 S n j (SR.c (Dw e sz rows v)) ⟨d,Dw e sz (rows++A1)⟩ o E (lens (rows.length+A1.length)):=by
 refine ⟨hg,fun M w a rs H_ he hI hj=> ?_⟩
 have h1:a.eval x=v:=(hx.ev he (by simp [ho,Op.operands,Call.operands])).1
 have h2:=hy.ev he (by simp [ho,Op.operands,Call.operands])
 obtain ⟨v',w',M',hrun,h3,h4,h5⟩:=ZL (ty:=o.type) ht hz hby Dy hzl hone hsz hI hj hl h2 hpos FE hfit
 have DT:(execOp a.eval o).run P w= .ok (.value v') w':=by simp [execOp,ho,resolve,invoke,builtin,h1,hrun]
 rw [DT]
 refine ⟨M',h3,h4,?_⟩
 have:(SR.at_ (a.put o.dst v') ⟨d,Dw e sz (rows++A1)⟩)=Dw e sz (rows++A1) v':=by unfold SR.at_ Slot.val;dsimp only;rw [hd,B4 (by rw [H_];exact hn)]
 rw [this];exact h5
theorem Bl.qR {M:Av} {w:World} {sz:Nat} {e:TypeId} {rows:List (List Pr)} {v:Value} {j:Nat} (h:Bl M0 w0 S rs M w) (hj:rs[j]? =some (Dw e sz rows v)) (hl:∀r∈rows,r.length=sz):
  ∃M',Ext M w M' w∧Bl M0 w0 S (rs.set j (BR e sz v)) M' w∧(slice sz rows).h M' w v:=by
 have hjl:j<rs.length:=by rcases Nat.lt_or_ge j rs.length with h|h;exact h;rw [List.getElem?_eq_none h] at hj;cases hj
 rcases (h.hold _ (List.mem_of_getElem? hj)).1 with ⟨rfl,rfl⟩|ec
 · exact ⟨M,Ext.refl _ _,h.Dr hj rfl rfl (by intro a n c hv;cases hv),AD sz M w _ rfl⟩
 ·
  obtain ⟨b,cap,spare,rfl,hnc,hcm,hsp,Tj⟩:=ec
  have hC:=h.Dr (r':=AA true b e (rows.flatten++spare.map is)) hj rfl rfl Tj
  obtain ⟨M',h1,h2,h3⟩:=Bl.ZG hC (List.getElem?_set_self hjl) hl hnc hcm (by rw [List.length_map];exact hsp)
  rw [List.set_set] at h2
  exact ⟨M',h1,h2,h3⟩
end
section
variable {P:Program} {L:Lg P} {n:Fm} {fz:Nat} {E:Env} {M0:Av} {w0:World} {S:Nat→Prop} {rs:List BS} {o:Oper} {ops:Array Oper} {r:List Oper}
def SS (P:Program) (f:FuncId) (args:List Pr) (res:Pr) (r:BS) (r':BS) (r2:BS):Prop:=Entry P f∧∀M0 w0 S rs M w vs,Bl M0 w0 S (r::r2::rs) M w→HL M w args vs→
 Calls P f vs.toArray w fun e w'=>∃v M',e= .returned v∧res.h M' w' v∧Ext M w M' w'∧Bl M0 w0 S (r'::r2::rs) M' w'
theorem SS.of {f : FuncId} {g : Func} {c : Code} {ps : List Pr} {res : Pr} {R R' R2 : BS} (hf : P.funcs[f]? = some g) (hb : g.body = some c) (hname : (g.name == "runtime.NumGoroutine") = false) (hlen : ps.length ≤ g.ntmps)
  (h:∀M0 w0 S rs M1 w1,Tr (UN P) g.ntmps (LW 0 ps) (Hp M0 w0 S (R::Bc M1 w1::R2::rs)) c (bodyPost P g (Mg M0 w0 S (R2::rs) M1 w1 res (fun _=>R')))):SS P f ps res R R' R2:=by
 refine ⟨⟨g,hf,hname,by rw [hb];rfl⟩,fun M0 w0 S rs M w vs hI hv=> ?_⟩
 refine calls_of_wp hf hb (h M0 w0 S rs M w _ _ ⟨M,?_,rfl,Iw hv,?_⟩)
 ·
  have:=hv.length
  simp [this];omega
 · exact Bl.perm (List.Perm.swap _ _ _) (Bl.Nw hI (r:=Bc M w) rfl (Ext.refl _ _))
theorem TO.Tk {Q:Exit→Act→World→Prop} {f:FuncId} {xs:Array Operand} {ts:Array TypeId} {ps:List Pr} {res:Pr} (j i:Nat) {d:Nat} {R0 R1 R2:BS} (hj:rs[j]? =some R0) (hi:rs[i]? =some R2) (hij:i≠j) (hg:o.guard=none) (hd:o.dst=some d) (hn:d<n) (ho:o.op= .call { callee:= .value (.func f),args:=xs,argTypes:=ts }) (hf:SS P f ps res R0 R1 R2)
  (hv:FD E xs.toList ps) (k:TO P n ops r ((d,res)::E) (Hp M0 w0 S (rs.set j R1)) Q):TO P n ops (o::r) E (Hp M0 w0 S rs) Q:=
 TO.UQ hg fun K M w a hsz hdf he hI hK=>by
  have hI:Bl M0 w0 S rs M w:=hI
  have h1:=FD.EJ (o:=o) (Ca he) (xs:=xs.toList) (fun x hx=>by simp [ho,Op.operands,Call.operands];exact .inr (by simpa using hx)) hv
  have hjl:j<rs.length:=by rcases Nat.lt_or_ge j rs.length with h|h;exact h;rw [List.getElem?_eq_none h] at hj;cases hj
  obtain ⟨m,hm⟩:∃m,(rs.eraseIdx j)[m]? =some R2:=by
   by_cases hlt:i<j
   · exact ⟨i,by rw [List.getElem?_eraseIdx,if_pos hlt];exact hi⟩
   · exact ⟨i-1,by rw [List.getElem?_eraseIdx,if_neg (by omega),show i-1+1=i by omega];exact hi⟩
  have hp:rs.Perm (R0::R2::(rs.eraseIdx j).eraseIdx m):=(AK hj).trans ((AK hm).cons _)
  have Jq:(R1::R2::(rs.eraseIdx j).eraseIdx m).Perm (rs.set j R1):=((AK hm).symm.cons _).trans (Jw hjl)
  have hgv:Oz P M0 w0 S o a M w res j (SR.c R1) rs ((execOp a.eval o).run P w):=by
   have hrun:(execOp a.eval o).run P w= .ok (.enter f (xs.toList.map a.eval).toArray) w:=by
    simp [execOp,ho,resolve,Deferred.ofValue,Act.eval,invoke,DR hf.1,E5 xs]
   rw [hrun]
   refine (hf.2 M0 w0 S _ M w _ (Bl.perm hp hI) h1).mono ?_
   rintro e w' ⟨v,M',rfl,h2,h3,h4⟩
   exact ⟨v,M',rfl,h2,h3,Bl.perm Jq h4⟩
  refine HN hgv fun v w' M' hv hx Ls=>hK _ _ _ _ k ⟨M',by rw [CF];exact hsz,by rw [put_defers];exact hdf,?_,Ls⟩
  intro s q hq
  simp only [List.lookup] at hq
  by_cases hs:s=d
  · subst hs;simp at hq;subst hq;rw [hd,B4 (by rw [hsz];exact hn)];exact hv
  · rw [show (s==d)=false by simpa using hs] at hq;rw [hd,CD hs];exact q.st _ _ _ _ _ hx (he s q hq)
end
abbrev C4 (k:IntKind):Pr:=Cp.ex fun i:Int=>is (.int k i)
theorem BH (k:IntKind) (i:Int):Pr.le (is (.int k i)) (C4 k):=fun _ _ _ h=>⟨i,h⟩
section
variable {P:Program} {L:Lg P} {I:Ci} {o:Oper} {E:Env}
theorem Lw {op:BinOp} {t u:TypeId} {x y:Operand} {k:IntKind} (hop:(op== .xor||op== .or)=true) (ho:o.op= .binOp op t x y u) (hx:VL E x (C4 k)) (hy:VL E y (C4 k)):Af P I o E (C4 k):=
 Af.same fun M w a he _=>by
  obtain ⟨m,h1⟩:=hx.ev he (by simp [ho,Op.operands])
  obtain ⟨n,h2⟩:=hy.ev he (by simp [ho,Op.operands])
  have h1:a.eval x= .int k m:=h1
  have h2:a.eval y= .int k n:=h2
  cases op<;>simp at hop<;>exact ⟨_,by simp [execOp,ho,h1,h2,eqGuard,binOp,Op.intBits];rfl,_,rfl⟩
theorem SU {op:BinOp} {t u:TypeId} {x y:Operand} {k k':IntKind} {c:Int} (hop:(op== .shl||op== .shr)=true) (ho:o.op= .binOp op t x y u) (hx:VL E x (C4 k)) (hy:VL E y (is (.int k' c))) (hc:0≤c):Af P I o E (C4 k):=
 Af.same fun M w a he _=>by
  obtain ⟨m,h1⟩:=hx.ev he (by simp [ho,Op.operands])
  have h1:a.eval x= .int k m:=h1
  have h2:a.eval y= .int k' c:=hy.ev he (by simp [ho,Op.operands])
  have hn:¬c<0:=by omega
  cases op<;>simp at hop<;>exact ⟨_,by simp [execOp,ho,h1,h2,eqGuard,binOp,Op.shift,hn];rfl,_,rfl⟩
theorem Lx {t u:TypeId} {x y:Operand} {k:IntKind} (ho:o.op= .binOp .add t x y u) (hx:VL E x (C4 k)) (hy:VL E y (C4 k)):Af P I o E (C4 k):=
 Af.same fun M w a he _=>by
  obtain ⟨m,h1⟩:=hx.ev he (by simp [ho,Op.operands])
  obtain ⟨n,h2⟩:=hy.ev he (by simp [ho,Op.operands])
  have h1:a.eval x= .int k m:=h1
  have h2:a.eval y= .int k n:=h2
  exact ⟨_,by simp [execOp,ho,h1,h2,eqGuard,binOp,Op.intArith];rfl,_,rfl⟩
theorem WL {t u:TypeId} {x y:Operand} {m:Int} (ho:o.op= .binOp .and t x y u) (hx:VL E x (C4 .u64)) (hy:VL E y (is (.int .u64 m))) (h0:0≤m) (h1m:m<18446744073709551616):Af P I o E (Cp.ex fun r:Int=>fact (0≤r∧r≤m) (is (.int .u64 r))):=
 Af.same fun M w a he _=>by
  obtain ⟨n,h1⟩:=hx.ev he (by simp [ho,Op.operands])
  have h1:a.eval x= .int .u64 n:=h1
  have h2:a.eval y= .int .u64 m:=hy.ev he (by simp [ho,Op.operands])
  have hm:(BitVec.ofInt 64 m).toNat=m.toNat:=by
   rw [BitVec.toNat_ofInt];omega
  have hle:(BitVec.ofInt 64 n&&&BitVec.ofInt 64 m).toNat≤m.toNat:=by
   rw [BitVec.toNat_and,hm];exact Nat.and_le_right
  have hw:IntKind.u64.wrap (((BitVec.ofInt 64 n&&&BitVec.ofInt 64 m).toNat:Nat):Int)=(((BitVec.ofInt 64 n&&&BitVec.ofInt 64 m).toNat:Nat):Int):=IntWalk.u64_in _ ⟨by omega,by omega⟩
  refine ⟨_,by simp [execOp,ho,h1,h2,eqGuard,binOp,Op.intBits];rfl,(((BitVec.ofInt 64 n&&&BitVec.ofInt 64 m).toNat:Nat):Int),⟨by omega,by omega⟩,?_⟩
  exact congrArg (Value.int .u64) hw
theorem ZN {t u:TypeId} {x y:Operand} {k:Int} {b:Int} (ho:o.op= .binOp .shl t x y u) (hx:VL E x (is (.int .u64 1))) (hy:VL E y (is (.int .i64 k))) (h0:0≤k) (h8:k≤8) (hb:2 ^ k.toNat≤b):Af P I o E (Cp.ex fun r:Int=>fact (1≤r∧r≤b) (is (.int .u64 r))):=
 Af.same fun M w a he _=>by
  have h1:a.eval x= .int .u64 1:=hx.ev he (by simp [ho,Op.operands])
  have h2:a.eval y= .int .i64 k:=hy.ev he (by simp [ho,Op.operands])
  have hn:¬k<0:=by omega
  have hmin:min k.toNat 64=k.toNat:=by omega
  have e:((2 ^ k.toNat:Nat):Int)=(2:Int) ^ k.toNat:=Int.natCast_pow 2 k.toNat
  have tQ:1≤2 ^ k.toNat:=Nat.one_le_two_pow
  have tT:2 ^ k.toNat≤256:=Nat.le_trans (Nat.pow_le_pow_right (n:=2) (by omega) (show k.toNat≤8 by omega)) (by decide)
  have Np:(1:Int)≤2 ^ k.toNat:=by rw [←e];omega
  have UW:(2:Int) ^ k.toNat≤256:=by rw [←e];omega
  have hw:IntKind.u64.wrap (2 ^ k.toNat)=2 ^ k.toNat:=IntWalk.u64_in _ ⟨by omega,by omega⟩
  refine ⟨.int .u64 (IntKind.u64.wrap (1*2 ^ (min k.toNat IntKind.u64.bits))),?_,2 ^ k.toNat,⟨Np,hb⟩,?_⟩
  ·
   simp only [execOp,ho,h1,h2]
   simp [eqGuard,binOp,Op.shift,hn]
   try rw [show min k.toNat IntKind.u64.bits=k.toNat from hmin]
  ·
   show Value.int _ _=Value.int _ _
   rw [show min k.toNat IntKind.u64.bits=k.toNat from hmin,Int.one_mul,hw]
end
theorem Fin.Kl {P:Program} {fz:Nat} {E:Env} {M0:Av} {w0:World} {S:Nat→Prop} {rs:List BS} {g:Func} {M1:Av} {w1:World} {r:BS} (hr:g.results= #[]):Fin ⟨fz,[]⟩ E (Hp M0 w0 S (r::Bc M1 w1::rs)) (bodyPost P g (Mg M0 w0 S rs M1 w1 FJ (fun _=>r))) .ret:=by
 rintro a w ⟨M,_,hd,he,hi⟩
 obtain ⟨h1,h2⟩:=Vx hi
 exact ⟨hd,_,results0 hr,_,M,rfl,rfl,h1,h2⟩
theorem Am {β:Type} {f:β→List Pr} {l:List β} {qs:List Pr} {sz:Nat} (hf:∀x,(f x).length=sz) {i:Int} (h:i.toNat<l.length):((((l.map f).flatten++qs).drop (0+i.toNat*sz)).take sz)=f (l[i.toNat]'h):=by
 rw [Nat.zero_add];exact My hf (List.getElem?_eq_getElem h)
theorem BP {β:Type} {f:β→List Pr} {sz:Nat} (hf:∀x,(f x).length=sz) {l:List β} {qs:List Pr} {i:Int} {x:β} (h:i.toNat<l.length):((l.map f).flatten++qs).take (0+i.toNat*sz)++f x++((l.map f).flatten++qs).drop (0+i.toNat*sz+sz)=((l.set i.toNat x).map f).flatten++qs:=by
 rw [Nat.zero_add];exact Kk hf h
section
variable {P:Program} {L:Lg P} {n:Fm} {fz:Nat} {E:Env} {M0:Av} {w0:World} {S:Nat→Prop} {rs:List BS} {o:Oper} {β:Type} {b:Nat} {e:TypeId} {f:β→List Pr} {qs:List Pr} {Φ:List β→Prop}
def D4 (b:Nat) (e:TypeId) (f:β→List Pr) (Φ:List β→Prop) (qs:List Pr):BS where
 Iv:=some b
 new:=true
 h M w:=∃st:List β,Φ st∧(AA true b e ((st.map f).flatten++qs)).h M w
 st M w M' w' he hk h:=let ⟨st,h1,h2⟩:=h;⟨st,h1,(AA true b e ((st.map f).flatten++qs)).st M w M' w' he hk h2⟩
theorem St.Eg (j:Nat) (hj:rs[j]? =some (D4 b e f Φ qs)) {a:Act} {w:World} (h:St n E (Hp M0 w0 S rs) a w):
  ∃st:List β,Φ st∧St n E (Hp M0 w0 S (rs.set j (AA true b e ((st.map f).flatten++qs)))) a w:=by
 obtain ⟨M,h1,h2,h3,h4⟩:=h
 have h4:Bl M0 w0 S rs M w:=h4
 obtain ⟨st,hp,h8⟩:=(h4.hold _ (List.mem_of_getElem? hj)).1
 exact ⟨st,hp,M,h1,h2,h3,h4.Dr hj rfl rfl h8⟩
theorem Tr.Eg {Q:Exit→Act→World→Prop} {c:Code} (j:Nat) (hj:rs[j]? =some (D4 b e f Φ qs))
  (k:∀st:List β,Φ st→Tr L n E (Hp M0 w0 S (rs.set j (AA true b e ((st.map f).flatten++qs)))) c Q):Tr L n E (Hp M0 w0 S rs) c Q:=
 fun a w hs=>let ⟨st,h1,h2⟩:=hs.Eg j hj;k st h1 a w h2
theorem Fin.Eg {Q:Exit→Act→World→Prop} {x:Exit} (j:Nat) (hj:rs[j]? =some (D4 b e f Φ qs))
  (k:∀st:List β,Φ st→Fin n E (Hp M0 w0 S (rs.set j (AA true b e ((st.map f).flatten++qs)))) Q x):Fin n E (Hp M0 w0 S rs) Q x:=
 fun a w hs=>let ⟨st,h1,h2⟩:=hs.Eg j hj;k st h1 a w h2
theorem TO.Eg {Q:Exit→Act→World→Prop} {ops:Array Oper} {r:List Oper} (j:Nat) (hj:rs[j]? =some (D4 b e f Φ qs))
  (k:∀st:List β,Φ st→TO P n ops r E (Hp M0 w0 S (rs.set j (AA true b e ((st.map f).flatten++qs)))) Q):TO P n ops r E (Hp M0 w0 S rs) Q:=
 fun m hl a w hs=>let ⟨st,h1,h2⟩:=hs.Eg j hj;k st h1 m hl a w h2
theorem St.Dn {st:List β} (j:Nat) (hj:rs[j]? =some (AA true b e ((st.map f).flatten++qs))) (hp:Φ st) {a:Act} {w:World} (h:St n E (Hp M0 w0 S rs) a w):St n E (Hp M0 w0 S (rs.set j (D4 b e f Φ qs))) a w:=by
 obtain ⟨M,h1,h2,h3,h4⟩:=h
 have h4:Bl M0 w0 S rs M w:=h4
 exact ⟨M,h1,h2,h3,h4.Dr hj rfl rfl ⟨st,hp,(h4.hold _ (List.mem_of_getElem? hj)).1⟩⟩
theorem Tr.Dn {Q:Exit→Act→World→Prop} {c:Code} {st:List β} (Φ:List β→Prop) (j:Nat) (hj:rs[j]? =some (AA true b e ((st.map f).flatten++qs))) (hp:Φ st)
  (k:Tr L n E (Hp M0 w0 S (rs.set j (D4 b e f Φ qs))) c Q):Tr L n E (Hp M0 w0 S rs) c Q:=Tr.conv (fun _ _ hs=>hs.Dn j hj hp) k
theorem Fin.Dn {Q:Exit→Act→World→Prop} {x:Exit} {st:List β} (Φ:List β→Prop) (j:Nat) (hj:rs[j]? =some (AA true b e ((st.map f).flatten++qs))) (hp:Φ st)
  (k:Fin n E (Hp M0 w0 S (rs.set j (D4 b e f Φ qs))) Q x):Fin n E (Hp M0 w0 S rs) Q x:=Fin.conv (fun _ _ hs=>hs.Dn j hj hp) k
instance (priority:=300) kV (b:Bool) (p:Prop) [h:GC b false p]:GC (!b) true p:=⟨fun e=>h.IE (by simpa using e)⟩
instance (priority:=300) kW (b:Bool) (p:Prop) [h:GC b true p]:GC (!b) false p:=⟨fun e=>h.IE (by simpa using e)⟩
end
end Cp
namespace Cp
open Go.Sort
section
variable {β:Type} [Inhabited β] {c:β×β→Int} {st:List β} {a b i j:Int}
def Cs (c:β×β→Int) (x y:β):Bool:=decide (c (x,y)<0)
theorem gx (h:i.toNat<st.length):st.toArray[i.toNat]! =st[i.toNat]:=by simp [h]
theorem sw (hi:i.toNat<st.length) (hj:j.toNat<st.length):((st.set i.toNat (st[j.toNat]'hj)).set j.toNat (st[i.toNat]'hi)).toArray=swp st.toArray i.toNat j.toNat:=by
 unfold swp
 rw [gx hi,gx hj]
 simp [Array.setIfInBounds_def,hi,hj]
omit [Inhabited β] in
theorem Gy {x y:β} (h:c (x,y)<0):Cs c x y=true:=decide_eq_true h
omit [Inhabited β] in
theorem Hv {x y:β} (h:¬c (x,y)<0):Cs c x y=false:=decide_eq_false h
theorem ej (h0:0≤a) (ha:a<j) {k:Int} (hk:k=j-1) (hj:j.toNat<st.length) (hj':k.toNat<st.length) (hc:c (st[j.toNat]'hj,st[k.toNat]'hj')<0):
  insInner (Cs c) a.toNat k.toNat ((st.set j.toNat (st[k.toNat]'hj')).set k.toNat (st[j.toNat]'hj)).toArray=insInner (Cs c) a.toNat j.toNat st.toArray:=by
 rw [sw hj hj']
 obtain ⟨m,hm⟩:∃m,j.toNat=m+1:=⟨j.toNat-1,by omega⟩
 have hk2:k.toNat=m:=by omega
 have e:Cs c (st.toArray[m+1]!) (st.toArray[m]!)=true:=by rw [←hm,←hk2,gx hj,gx hj'];exact Gy hc
 rw [hm,hk2]
 conv=>rhs;rw [insInner]
 rw [if_pos (by rw [e];simp;omega)]
theorem UX (h0:0≤a) (h:¬a<j):st.toArray=insInner (Cs c) a.toNat j.toNat st.toArray:=by
 cases hm:j.toNat with
 |zero=>rfl
 |succ m=>rw [insInner,if_neg (by simp;omega)]
theorem UY (h0:0≤a) (ha:a<j) {k:Int} (hk:k=j-1) (hj:j.toNat<st.length) (hj':k.toNat<st.length) (hc:¬c (st[j.toNat]'hj,st[k.toNat]'hj')<0):st.toArray=insInner (Cs c) a.toNat j.toNat st.toArray:=by
 obtain ⟨m,hm⟩:∃m,j.toNat=m+1:=⟨j.toNat-1,by omega⟩
 have hk2:k.toNat=m:=by omega
 have e:Cs c (st.toArray[m+1]!) (st.toArray[m]!)=false:=by rw [←hm,←hk2,gx hj,gx hj'];exact Hv hc
 rw [hm,insInner,if_neg (by rw [e];simp)]
theorem Tm {d:Array β} (h0:0≤i) (h:i<b):insOuter (Cs c) a.toNat b.toNat (i+1).toNat (insInner (Cs c) a.toNat i.toNat d)=insOuter (Cs c) a.toNat b.toNat i.toNat d:=by
 conv=>rhs;rw [insOuter]
 rw [if_pos (by omega),show (i+1).toNat=i.toNat+1 by omega]
theorem UZ {d:Array β} (h0:0≤i) (h:¬i<b):insOuter (Cs c) a.toNat b.toNat i.toNat d=d:=by
 rw [insOuter,if_neg (by omega)]
theorem SV {d:Array β} (h0:0≤a):insOuter (Cs c) a.toNat b.toNat (a+1).toNat d=insertionSort (Cs c) d a.toNat b.toNat:=by
 unfold insertionSort;rw [show (a+1).toNat=a.toNat+1 by omega]
variable {hi F r:Int}
theorem WM {d:Array β} (h0:0≤r) (h:hi≤2*r+1):d=siftDown (Cs c) hi.toNat F.toNat r.toNat d:=by
 rw [siftDown,dif_pos (by omega)]
theorem Qw {x y:Int} (h0:0≤r) (hF:0≤F) (h:¬hi≤2*r+1) (h2:¬2*r+1+1<hi) (hx:x=F+r) (hy:y=F+(2*r+1)) (hxl:x.toNat<st.length) (M3:y.toNat<st.length) (hc:¬c (st[x.toNat]'hxl,st[y.toNat]'M3)<0):
  st.toArray=siftDown (Cs c) hi.toNat F.toNat r.toNat st.toArray:=by
 have e:Cs c (st.toArray[F.toNat+r.toNat]!) (st.toArray[F.toNat+(2*r.toNat+1)]!)=false:=by
  rw [show F.toNat+r.toNat=x.toNat by omega,show F.toNat+(2*r.toNat+1)=y.toNat by omega,gx hxl,gx M3];exact Hv hc
 rw [siftDown,dif_neg (by omega),if_neg (by simp;omega),if_pos (by rw [e];rfl)]
theorem Ua {x y:Int} (h0:0≤r) (hF:0≤F) (h:¬hi≤2*r+1) (h2:¬2*r+1+1<hi) (hx:x=F+r) (hy:y=F+(2*r+1)) (hxl:x.toNat<st.length) (M3:y.toNat<st.length) (hc:c (st[x.toNat]'hxl,st[y.toNat]'M3)<0):
  siftDown (Cs c) hi.toNat F.toNat (2*r+1).toNat ((st.set x.toNat (st[y.toNat]'M3)).set y.toNat (st[x.toNat]'hxl)).toArray=siftDown (Cs c) hi.toNat F.toNat r.toNat st.toArray:=by
 have e:Cs c (st.toArray[F.toNat+r.toNat]!) (st.toArray[F.toNat+(2*r.toNat+1)]!)=true:=by
  rw [show F.toNat+r.toNat=x.toNat by omega,show F.toNat+(2*r.toNat+1)=y.toNat by omega,gx hxl,gx M3];exact Gy hc
 rw [sw hxl M3]
 conv=>rhs;rw [siftDown]
 rw [dif_neg (by omega),if_neg (by simp;omega),if_neg (by rw [e];simp)]
 rw [show (2*r+1).toNat=2*r.toNat+1 by omega,show F.toNat+r.toNat=x.toNat by omega,show F.toNat+(2*r.toNat+1)=y.toNat by omega]
theorem Qx {x y u v:Int} (h0:0≤r) (hF:0≤F) (h:¬hi≤2*r+1) (hu:u=F+(2*r+1)) (hv:v=F+(2*r+1)+1) (WN:u.toNat<st.length) (hvl:v.toNat<st.length) (h2:¬c (st[u.toNat]'WN,st[v.toNat]'hvl)<0)
  (hx:x=F+r) (hy:y=F+(2*r+1)) (hxl:x.toNat<st.length) (M3:y.toNat<st.length) (hc:¬c (st[x.toNat]'hxl,st[y.toNat]'M3)<0):st.toArray=siftDown (Cs c) hi.toNat F.toNat r.toNat st.toArray:=by
 have e:Cs c (st.toArray[F.toNat+r.toNat]!) (st.toArray[F.toNat+(2*r.toNat+1)]!)=false:=by
  rw [show F.toNat+r.toNat=x.toNat by omega,show F.toNat+(2*r.toNat+1)=y.toNat by omega,gx hxl,gx M3];exact Hv hc
 have e2:Cs c (st.toArray[F.toNat+(2*r.toNat+1)]!) (st.toArray[F.toNat+(2*r.toNat+1)+1]!)=false:=by
  rw [show F.toNat+(2*r.toNat+1)+1=v.toNat by omega,show F.toNat+(2*r.toNat+1)=u.toNat by omega,gx WN,gx hvl];exact Hv h2
 rw [siftDown,dif_neg (by omega),if_neg (by rw [e2];simp),if_pos (by rw [e];rfl)]
theorem Ub {x y u v:Int} (h0:0≤r) (hF:0≤F) (h:¬hi≤2*r+1) (hu:u=F+(2*r+1)) (hv:v=F+(2*r+1)+1) (WN:u.toNat<st.length) (hvl:v.toNat<st.length) (h2:¬c (st[u.toNat]'WN,st[v.toNat]'hvl)<0)
  (hx:x=F+r) (hy:y=F+(2*r+1)) (hxl:x.toNat<st.length) (M3:y.toNat<st.length) (hc:c (st[x.toNat]'hxl,st[y.toNat]'M3)<0):
  siftDown (Cs c) hi.toNat F.toNat (2*r+1).toNat ((st.set x.toNat (st[y.toNat]'M3)).set y.toNat (st[x.toNat]'hxl)).toArray=siftDown (Cs c) hi.toNat F.toNat r.toNat st.toArray:=by
 have e:Cs c (st.toArray[F.toNat+r.toNat]!) (st.toArray[F.toNat+(2*r.toNat+1)]!)=true:=by
  rw [show F.toNat+r.toNat=x.toNat by omega,show F.toNat+(2*r.toNat+1)=y.toNat by omega,gx hxl,gx M3];exact Gy hc
 have e2:Cs c (st.toArray[F.toNat+(2*r.toNat+1)]!) (st.toArray[F.toNat+(2*r.toNat+1)+1]!)=false:=by
  rw [show F.toNat+(2*r.toNat+1)+1=v.toNat by omega,show F.toNat+(2*r.toNat+1)=u.toNat by omega,gx WN,gx hvl];exact Hv h2
 rw [sw hxl M3]
 conv=>rhs;rw [siftDown]
 rw [dif_neg (by omega),if_neg (by rw [e2];simp),if_neg (by rw [e];simp)]
 rw [show (2*r+1).toNat=2*r.toNat+1 by omega,show F.toNat+r.toNat=x.toNat by omega,show F.toNat+(2*r.toNat+1)=y.toNat by omega]
theorem SW {x y u v:Int} (h0:0≤r) (hF:0≤F) (h:2*r+1+1<hi) (hu:u=F+(2*r+1)) (hv:v=F+(2*r+1)+1) (WN:u.toNat<st.length) (hvl:v.toNat<st.length) (h2:c (st[u.toNat]'WN,st[v.toNat]'hvl)<0)
  (hx:x=F+r) (hy:y=F+(2*r+1+1)) (hxl:x.toNat<st.length) (M3:y.toNat<st.length) (hc:¬c (st[x.toNat]'hxl,st[y.toNat]'M3)<0):st.toArray=siftDown (Cs c) hi.toNat F.toNat r.toNat st.toArray:=by
 have e:Cs c (st.toArray[F.toNat+r.toNat]!) (st.toArray[F.toNat+(2*r.toNat+2)]!)=false:=by
  rw [show F.toNat+r.toNat=x.toNat by omega,show F.toNat+(2*r.toNat+2)=y.toNat by omega,gx hxl,gx M3];exact Hv hc
 have e2:Cs c (st.toArray[F.toNat+(2*r.toNat+1)]!) (st.toArray[F.toNat+(2*r.toNat+1)+1]!)=true:=by
  rw [show F.toNat+(2*r.toNat+1)+1=v.toNat by omega,show F.toNat+(2*r.toNat+1)=u.toNat by omega,gx WN,gx hvl];exact Gy h2
 rw [siftDown,dif_neg (by omega),if_pos (by rw [e2];simp;omega),if_pos (by rw [e];rfl)]
theorem WO {x y u v:Int} (h0:0≤r) (hF:0≤F) (h:2*r+1+1<hi) (hu:u=F+(2*r+1)) (hv:v=F+(2*r+1)+1) (WN:u.toNat<st.length) (hvl:v.toNat<st.length) (h2:c (st[u.toNat]'WN,st[v.toNat]'hvl)<0)
  (hx:x=F+r) (hy:y=F+(2*r+1+1)) (hxl:x.toNat<st.length) (M3:y.toNat<st.length) (hc:c (st[x.toNat]'hxl,st[y.toNat]'M3)<0):
  siftDown (Cs c) hi.toNat F.toNat (2*r+1+1).toNat ((st.set x.toNat (st[y.toNat]'M3)).set y.toNat (st[x.toNat]'hxl)).toArray=siftDown (Cs c) hi.toNat F.toNat r.toNat st.toArray:=by
 have e:Cs c (st.toArray[F.toNat+r.toNat]!) (st.toArray[F.toNat+(2*r.toNat+2)]!)=true:=by
  rw [show F.toNat+r.toNat=x.toNat by omega,show F.toNat+(2*r.toNat+2)=y.toNat by omega,gx hxl,gx M3];exact Gy hc
 have e2:Cs c (st.toArray[F.toNat+(2*r.toNat+1)]!) (st.toArray[F.toNat+(2*r.toNat+1)+1]!)=true:=by
  rw [show F.toNat+(2*r.toNat+1)+1=v.toNat by omega,show F.toNat+(2*r.toNat+1)=u.toNat by omega,gx WN,gx hvl];exact Gy h2
 rw [sw hxl M3]
 conv=>rhs;rw [siftDown]
 rw [dif_neg (by omega),if_pos (by rw [e2];simp;omega),if_neg (by rw [e];simp),dif_pos (by omega)]
 rw [show (2*r+1+1).toNat=2*r.toNat+2 by omega,show F.toNat+r.toNat=x.toNat by omega,show F.toNat+(2*r.toNat+2)=y.toNat by omega]
theorem WQ {d:Array β} (h0:0≤i):heapBuild (Cs c) hi.toNat F.toNat (i-1+1).toNat (siftDown (Cs c) hi.toNat F.toNat i.toNat d)=heapBuild (Cs c) hi.toNat F.toNat (i+1).toNat d:=by
 rw [show (i+1).toNat=i.toNat+1 by omega,show (i-1+1).toNat=i.toNat by omega];rfl
theorem Uc {d:Array β} (h0:¬0≤i):heapBuild (Cs c) hi.toNat F.toNat (i+1).toNat d=d:=by
 rw [show (i+1).toNat=0 by omega];rfl
theorem eo {d:Array β} (h0:0≤i):heapPop (Cs c) F.toNat (i-1+1).toNat (siftDown (Cs c) i.toNat F.toNat (0:Int).toNat (swp d F.toNat (F.toNat+i.toNat)))=heapPop (Cs c) F.toNat (i+1).toNat d:=by
 rw [show (i+1).toNat=i.toNat+1 by omega,show (i-1+1).toNat=i.toNat by omega];rfl
theorem ZO {d:Array β} (h0:¬0≤i):heapPop (Cs c) F.toNat (i+1).toNat d=d:=by
 rw [show (i+1).toNat=0 by omega];rfl
theorem Ud (h0:0≤a) (hab:a≤b) (hb:b≤1000000):Go.IntKind.i64.wrap ((b-a-1).tdiv 2)=(((b.toNat-a.toNat-1)/2:Nat):Int):=by
 have:(b-a-1).tdiv 2=(((b.toNat-a.toNat-1)/2:Nat):Int):=by
  rcases Int.lt_or_le (b-a-1) 0 with h|h
  ·
   have e:b-a-1= -1:=by omega
   rw [e,show b.toNat-a.toNat-1=0 by omega];rfl
  · rw [Int.tdiv_eq_ediv_of_nonneg h];omega
 rw [this,Go.IntWalk.i64_in _ ⟨by omega,by omega⟩]
theorem heap_holds (hw:SWO (Cs c)) (d:Array β) (h0:0≤a) (hab:a≤b) (hb:b.toNat≤d.size):
  PermIn a.toNat b.toNat d (heapPop (Cs c) a.toNat (b-a).toNat (heapBuild (Cs c) (b-a).toNat a.toNat ((b.toNat-a.toNat-1)/2+1) d))∧SortedIn (Cs c) a.toNat b.toNat (heapPop (Cs c) a.toNat (b-a).toNat (heapBuild (Cs c) (b-a).toNat a.toNat ((b.toNat-a.toNat-1)/2+1) d)):=by
 have:=heapSort_holds hw d a.toNat b.toNat (by omega) hb
 unfold heapSort at this
 rw [show (b-a).toNat=b.toNat-a.toNat by omega]
 exact this
theorem cT {n:Int} (h0:0≤n) (h1:n≤1000000):0≤Go.IntKind.i64.wrap (n.tdiv 4)∧4*Go.IntKind.i64.wrap (n.tdiv 4)≤n∧n<4*Go.IntKind.i64.wrap (n.tdiv 4)+4:=by
 have:n.tdiv 4=n/4:=Int.tdiv_eq_ediv_of_nonneg h0
 rw [this,Go.IntWalk.i64_in _ ⟨by omega,by omega⟩]
 omega
theorem WR {p:β→Bool} (h0:0≤i) (hij:i≤j) (hl:i.toNat<st.length) (hp:p (st[i.toNat]'hl)=true):scanUp p st.toArray j.toNat (i+1).toNat=scanUp p st.toArray j.toNat i.toNat:=by
 conv=>rhs;rw [scanUp]
 rw [if_pos (by rw [gx hl,hp];simp;omega),show (i+1).toNat=i.toNat+1 by omega]
theorem M4 {p:β→Bool} {d:Array β} (hj:0≤j) (hij:¬i≤j):scanUp p d j.toNat i.toNat=i.toNat:=by
 rw [scanUp,if_neg (by simp;omega)]
theorem M5 {p:β→Bool} (hl:i.toNat<st.length) (hp:p (st[i.toNat]'hl)=false):scanUp p st.toArray j.toNat i.toNat=i.toNat:=by
 rw [scanUp,if_neg (by rw [gx hl,hp];simp)]
theorem WS {p:β→Bool} (h0:1≤i) (hij:i≤j) (hl:j.toNat<st.length) (hp:p (st[j.toNat]'hl)=true):scanDown p st.toArray i.toNat (j-1).toNat=scanDown p st.toArray i.toNat j.toNat:=by
 obtain ⟨m,hm⟩:∃m,j.toNat=m+1:=⟨j.toNat-1,by omega⟩
 have Jq:p (st.toArray[m+1]!)=true:=by rw [←hm,gx hl];exact hp
 rw [show (j-1).toNat=m by omega,hm]
 conv=>rhs;rw [scanDown]
 rw [if_pos (by rw [Jq];simp;omega)]
theorem M6 {p:β→Bool} {d:Array β} (h0:0≤j) (hij:¬i≤j):scanDown p d i.toNat j.toNat=j.toNat:=by
 cases hm:j.toNat with
 |zero=>rfl
 |succ m=>rw [scanDown,if_neg (by simp;omega)]
theorem M7 {p:β→Bool} (hl:j.toNat<st.length) (hp:p (st[j.toNat]'hl)=false):scanDown p st.toArray i.toNat j.toNat=j.toNat:=by
 cases hm:j.toNat with
 |zero=>rfl
 |succ m=>
  have Jq:p (st.toArray[m+1]!)=false:=by rw [←hm,gx hl];exact hp
  rw [scanDown,if_neg (by rw [Jq];simp)]
abbrev pU (c:β×β→Int) (d:Array β) (a:Int):β→Bool:=fun x=>Cs c x d[a.toNat]!
abbrev pD (c:β×β→Int) (d:Array β) (a:Int):β→Bool:=fun x=> !Cs c x d[a.toNat]!
abbrev qU (c:β×β→Int) (d:Array β) (a:Int):β→Bool:=fun x=> !Cs c d[a.toNat]! x
abbrev qD (c:β×β→Int) (d:Array β) (a:Int):β→Bool:=fun x=>Cs c d[a.toNat]! x
theorem kX (hi:i.toNat<st.length) (ha:a.toNat<st.length) (h:c (st[i.toNat]'hi,st[a.toNat]'ha)<0):pU c st.toArray a (st[i.toNat]'hi)=true:=by show Cs c _ _=true;rw [gx ha];exact Gy h
theorem kY (hi:i.toNat<st.length) (ha:a.toNat<st.length) (h:¬c (st[i.toNat]'hi,st[a.toNat]'ha)<0):pU c st.toArray a (st[i.toNat]'hi)=false:=by show Cs c _ _=false;rw [gx ha];exact Hv h
theorem kZ (hi:i.toNat<st.length) (ha:a.toNat<st.length) (h:¬c (st[i.toNat]'hi,st[a.toNat]'ha)<0):pD c st.toArray a (st[i.toNat]'hi)=true:=by show (!Cs c _ _)=true;rw [gx ha,Hv h];rfl
theorem kf (hi:i.toNat<st.length) (ha:a.toNat<st.length) (h:c (st[i.toNat]'hi,st[a.toNat]'ha)<0):pD c st.toArray a (st[i.toNat]'hi)=false:=by show (!Cs c _ _)=false;rw [gx ha,Gy h];rfl
theorem qS (hi:i.toNat<st.length) (ha:a.toNat<st.length) (h:¬c (st[a.toNat]'ha,st[i.toNat]'hi)<0):qU c st.toArray a (st[i.toNat]'hi)=true:=by show (!Cs c _ _)=true;rw [gx ha,Hv h];rfl
theorem qT (hi:i.toNat<st.length) (ha:a.toNat<st.length) (h:c (st[a.toNat]'ha,st[i.toNat]'hi)<0):qU c st.toArray a (st[i.toNat]'hi)=false:=by show (!Cs c _ _)=false;rw [gx ha,Gy h];rfl
theorem qV (hi:i.toNat<st.length) (ha:a.toNat<st.length) (h:c (st[a.toNat]'ha,st[i.toNat]'hi)<0):qD c st.toArray a (st[i.toNat]'hi)=true:=by show Cs c _ _=true;rw [gx ha];exact Gy h
theorem qW (hi:i.toNat<st.length) (ha:a.toNat<st.length) (h:¬c (st[a.toNat]'ha,st[i.toNat]'hi)<0):qD c st.toArray a (st[i.toNat]'hi)=false:=by show Cs c _ _=false;rw [gx ha];exact Hv h
abbrev cU (c:β×β→Int) (a i j:Int) (d:Array β):Nat×Array β:=partLoop (Cs c) a.toNat i.toNat j.toNat d
abbrev eu (c:β×β→Int) (a i j:Int) (d:Array β):Nat×Array β:=partEqLoop (Cs c) a.toNat i.toNat j.toNat d
theorem Iz {i2 j2:Int} (h1:i2.toNat=scanUp (pU c st.toArray a) st.toArray j.toNat i.toNat) (h2:j2.toNat=scanDown (pD c st.toArray a) st.toArray i2.toNat j.toNat) (h0:0≤j2) (h:i2>j2):cU c a i j st.toArray=(j2.toNat,st.toArray):=by
 have h:=partLoop_eq (Cs c) a.toNat i.toNat j.toNat st.toArray
 rw [←h1,←h2,if_pos (by omega)] at h
 exact h
theorem Tn {i2 j2:Int} (h1:i2.toNat=scanUp (pU c st.toArray a) st.toArray j.toNat i.toNat) (h2:j2.toNat=scanDown (pD c st.toArray a) st.toArray i2.toNat j.toNat) (h0:0≤i2) (h:¬i2>j2) (hi:i2.toNat<st.length) (hj:j2.toNat<st.length):
  cU c a (i2+1) (j2-1) ((st.set i2.toNat (st[j2.toNat]'hj)).set j2.toNat (st[i2.toNat]'hi)).toArray=cU c a i j st.toArray:=by
 have h:=partLoop_eq (Cs c) a.toNat i.toNat j.toNat st.toArray
 rw [←h1,←h2,if_neg (by omega)] at h
 unfold cU
 rw [h,sw hi hj,show (i2+1).toNat=i2.toNat+1 by omega,show (j2-1).toNat=j2.toNat-1 by omega]
theorem Qy {i2 j2:Int} (h1:i2.toNat=scanUp (qU c st.toArray a) st.toArray j.toNat i.toNat) (h2:j2.toNat=scanDown (qD c st.toArray a) st.toArray i2.toNat j.toNat) (h0:0≤j2) (h:i2>j2):eu c a i j st.toArray=(i2.toNat,st.toArray):=by
 have h:=partEqLoop_eq (Cs c) a.toNat i.toNat j.toNat st.toArray
 rw [←h1,←h2,if_pos (by omega)] at h
 exact h
theorem ew {i2 j2:Int} (h1:i2.toNat=scanUp (qU c st.toArray a) st.toArray j.toNat i.toNat) (h2:j2.toNat=scanDown (qD c st.toArray a) st.toArray i2.toNat j.toNat) (h0:0≤i2) (h:¬i2>j2) (hi:i2.toNat<st.length) (hj:j2.toNat<st.length):
  eu c a (i2+1) (j2-1) ((st.set i2.toNat (st[j2.toNat]'hj)).set j2.toNat (st[i2.toNat]'hi)).toArray=eu c a i j st.toArray:=by
 have h:=partEqLoop_eq (Cs c) a.toNat i.toNat j.toNat st.toArray
 rw [←h1,←h2,if_neg (by omega)] at h
 unfold eu
 rw [h,sw hi hj,show (i2+1).toNat=i2.toNat+1 by omega,show (j2-1).toNat=j2.toNat-1 by omega]
variable {lt:β→β→Bool} {a0 b0 m n:Nat} {l s s':Array β}
structure PS (lt:β→β→Bool) (a0 b0 a b:Nat) (l s:Array β):Prop where
 ha:a0≤a
 hab:a≤b
 hb:b≤b0
 hp:PermIn a0 b0 l s
 below:Below lt a b s
 out:∀i j,a0≤i→i<j→j<b0→(i<a∨b≤j)→lt s[j]! s[i]! =false
theorem PS.init (h:a0≤b0) (hB:Below lt a0 b0 l):PS lt a0 b0 a0 b0 l l:=⟨Nat.le_refl _,h,Nat.le_refl _,permIn_refl _ _ _,hB,fun _ _ h1 _ h3 h4=>by omega⟩
theorem PS.perm (h:PS lt a0 b0 m n l s) (hs:b0≤l.size) (hq:PermIn m n s s'):PS lt a0 b0 m n l s':=by
 have hsz:s.size=l.size:=h.hp.1
 have bp:n≤s.size:=by have:=h.hb;omega
 refine ⟨h.ha,h.hab,h.hb,permIn_trans _ _ _ _ _ h.hp (permIn_mono _ _ _ _ _ _ h.ha h.hb (by omega) hq),Below.permA permIn_all bp h.below hq,fun i j h1 h2 h3 h4=> ?_⟩
 have hm:=h.hab
 by_cases hi:m≤i∧i<n
 ·
  have hj:n≤j:=by omega
  rw [hq.2.1 j (.inr hj)]
  exact permIn_all s s' m n (fun x=>lt s[j]! x=false) bp hq (fun k hk1 hk2=>h.out k j (by have:=h.ha;omega) (by omega) h3 (.inr hj)) i hi.1 hi.2
 ·
  rw [hq.2.1 i (by omega)]
  by_cases hj:m≤j∧j<n
  · exact permIn_all s s' m n (fun x=>lt x s[i]! =false) bp hq (fun k hk1 hk2=>h.out i k h1 (by omega) (by have:=h.hb;omega) (.inl (by omega))) j hj.1 hj.2
  · rw [hq.2.1 j (by omega)];exact h.out i j h1 h2 h3 h4
theorem PS.done (h:PS lt a0 b0 m n l s) (hs:SortedIn lt m n s):PermIn a0 b0 l s∧SortedIn lt a0 b0 s:=by
 refine ⟨h.hp,fun i j h1 h2 h3=> ?_⟩
 by_cases hh:i<m∨n≤j
 · exact h.out i j h1 h2 h3 hh
 · exact hs i j (by omega) h2 (by omega)
theorem PS.eq (hw:SWO lt) (h:PS lt a0 b0 m n l s) (hs:b0≤l.size) {pv:β} {k:Nat} (hm:0<m) (HJ:lt s[m-1]! pv=false) (hk:m<k) (hkn:k≤n) (hq:PermIn m n s s') (h1:∀i,m≤i→i<k→lt pv s'[i]! =false) (h2:∀i,k≤i→i<n→lt pv s'[i]! =true):
  PS lt a0 b0 k n l s':=by
 have h':=h.perm hs hq
 have hle:∀j,m≤j→j<n→lt s'[j]! pv=false:=by
  intro j ZM hj2
  by_cases hjk:k≤j
  · exact hw.asym (h2 j hjk hj2)
  ·
   have hb:=h'.below
   rcases hb with hb|hb
   · omega
   ·
    have hb:=hb j ZM hj2
    rw [hq.2.1 (m-1) (.inl (by omega))] at hb
    exact hw.ntrans _ _ _ hb HJ
 have key:∀i j,m≤i→i<k→m≤j→j<n→lt s'[j]! s'[i]! =false:=fun i j ha hb hc hd=>hw.ntrans _ _ _ (hle j hc hd) (h1 i ha hb)
 refine ⟨by have:=h.ha;omega,hkn,h.hb,h'.hp,.inr fun i hi1 hi2=>key (k-1) i (by omega) (by omega) (by omega) hi2,fun i j g1 g2 g3 g4=> ?_⟩
 by_cases hh:i<m∨n≤j
 · exact h'.out i j g1 g2 g3 hh
 · exact key i j (by omega) (by omega) (by omega) (by omega)
structure M8 (lt:β→β→Bool) (m n k:Nat) (s:Array β):Prop where
 h1:m≤k
 h2:k<n
 lo:∀i,m≤i→i<k→lt s[i]! s[k]! =true
 up:∀i,k<i→i<n→lt s[i]! s[k]! =false
theorem PS.left (hw:SWO lt) {k:Nat} (h:PS lt a0 b0 m n l s) (hs:b0≤l.size) (hp:M8 lt m n k s) (hq:PermIn m k s s') (IV:SortedIn lt m k s'):PS lt a0 b0 (k+1) n l s':=by
 obtain ⟨h1,h2,lo,up⟩:=hp
 have hsz:s.size=l.size:=h.hp.1
 have hks:k≤s.size:=by have:=h.hb;omega
 have R6:PermIn m n s s':=permIn_mono _ _ _ _ _ _ (Nat.le_refl _) (by omega) (by have:=h.hb;omega) hq
 have h':=h.perm hs R6
 have ek:s'[k]! =s[k]! :=hq.2.1 k (.inr (Nat.le_refl _))
 have lo':∀i,m≤i→i<k→lt s'[i]! s[k]! =true:=fun i g1 g2=>permIn_all s s' m k (fun x=>lt x s[k]! =true) hks hq lo i g1 g2
 have up':∀i,k<i→i<n→lt s'[i]! s[k]! =false:=fun i g1 g2=>by rw [hq.2.1 i (.inr (by omega))];exact up i g1 g2
 refine ⟨by have:=h.ha;omega,by omega,h.hb,h'.hp,.inr fun i g1 g2=> ?_,fun i j g1 g2 g3 g4=> ?_⟩
 · rw [show k+1-1=k by omega,ek];exact up' i (by omega) g2
 ·
  by_cases hh:i<m∨n≤j
  · exact h'.out i j g1 g2 g3 hh
  ·
   rcases Nat.lt_trichotomy i k with hik|hik|hik
   ·
    rcases Nat.lt_trichotomy j k with hjk|hjk|hjk
    · exact IV i j (by omega) g2 hjk
    · subst hjk;rw [ek];exact hw.asym (lo' i (by omega) hik)
    · exact hw.ntrans _ _ _ (up' j hjk (by omega)) (hw.asym (lo' i (by omega) hik))
   · subst hik;rw [ek];exact up' j g2 (by omega)
   · omega
theorem PS.right (hw:SWO lt) {k:Nat} (h:PS lt a0 b0 m n l s) (hs:b0≤l.size) (hp:M8 lt m n k s) (hq:PermIn (k+1) n s s') (IV:SortedIn lt (k+1) n s'):PS lt a0 b0 m k l s':=by
 obtain ⟨h1,h2,lo,up⟩:=hp
 have hsz:s.size=l.size:=h.hp.1
 have bp:n≤s.size:=by have:=h.hb;omega
 have R6:PermIn m n s s':=permIn_mono _ _ _ _ _ _ (by omega) (Nat.le_refl _) bp hq
 have h':=h.perm hs R6
 have ek:s'[k]! =s[k]! :=hq.2.1 k (.inl (by omega))
 have lo':∀i,m≤i→i<k→lt s'[i]! s[k]! =true:=fun i g1 g2=>by rw [hq.2.1 i (.inl (by omega))];exact lo i g1 g2
 have up':∀i,k<i→i<n→lt s'[i]! s[k]! =false:=fun i g1 g2=>permIn_all s s' (k+1) n (fun x=>lt x s[k]! =false) bp hq (fun i q1 q2=>up i (by omega) q2) i (by omega) g2
 refine ⟨h.ha,h1,by have:=h.hb;omega,h'.hp,?_,fun i j g1 g2 g3 g4=> ?_⟩
 ·
  rcases h'.below with hb|hb
  · exact .inl hb
  · exact .inr fun i q1 q2=>hb i q1 (by omega)
 ·
  by_cases hh:i<m∨n≤j
  · exact h'.out i j g1 g2 g3 hh
  ·
   rcases Nat.lt_trichotomy i k with hik|hik|hik
   ·
    rcases Nat.lt_trichotomy j k with hjk|hjk|hjk
    · omega
    · subst hjk;rw [ek];exact hw.asym (lo' i (by omega) hik)
    · exact hw.ntrans _ _ _ (up' j hjk (by omega)) (hw.asym (lo' i (by omega) hik))
   · subst hik;rw [ek];exact up' j g2 (by omega)
   · exact IV i j (by omega) g2 (by omega)
theorem PS.WU {k:Nat} (h:PS lt a0 b0 m n l s) (hk:k≤n):Below lt m k s:=h.below.imp id fun hb i g1 g2=>hb i g1 (by omega)
theorem M8.WV {k:Nat} (hp:M8 lt m n k s):Below lt (k+1) n s:= .inr fun i g1 g2=>by rw [show k+1-1=k by omega];exact hp.up i (by omega) g2
theorem N1 (hw:SWO lt) (h:∀k,m<k→k<n→lt s[k]! s[k-1]! =false):SortedIn lt m n s:=by
 intro i j h1 h2 h3
 obtain ⟨d,rfl⟩:∃d,j=i+d+1:=⟨j-i-1,by omega⟩
 induction d with
 |zero=>exact h (i+0+1) (by omega) h3
 |succ d ih=>exact hw.ntrans _ _ _ (h (i+(d+1)+1) (by omega) h3) (by rw [show i+(d+1)+1-1=i+d+1 by omega];exact ih (by omega) (by omega))
end
section
variable {β:Type} [Inhabited β] {c:β×β→Int} {st:List β}
def YP (c:β×β→Int) (a b:Int) (l:List β):Prop:=∀k,a.toNat<k→k<b.toNat→Cs c l.toArray[k]! l.toArray[k-1]! =false
theorem YP.start (a:Int) (l:List β) (h0:0≤a):YP c a (a+1) l:=fun k h1 h2=>by omega
theorem YP.go {a i k:Int} (h:YP c a i st) (h0:0≤a) (ha:a<i) (hk:k=i-1) (hi:i.toNat<st.length) (hk':k.toNat<st.length) (hc:0≤c (st[i.toNat]'hi,st[k.toNat]'hk')):YP c a (i+1) st:=fun m h1 h2=>by
 rcases Nat.lt_or_ge m i.toNat with hm|hm
 · exact h m h1 hm
 ·
  have e:m=i.toNat:=by omega
  subst e
  rw [show i.toNat-1=k.toNat by omega,gx hi,gx hk'];exact Hv (by omega)
theorem YP.sorted {a b:Int} (hw:SWO (Cs c)) (h:YP c a b st):SortedIn (Cs c) a.toNat b.toNat st.toArray:=N1 hw h
end
section
variable {β:Type} [Inhabited β]
def Dp (a b:Int) (l st:List β):Prop:=PermIn a.toNat b.toNat l.toArray st.toArray
def Fp (c:β×β→Int) (a b:Int) (l st:List β):Prop:=PermIn a.toNat b.toNat l.toArray st.toArray∧SortedIn (Cs c) a.toNat b.toNat st.toArray
theorem Dp.len {a b:Int} {l st:List β} (h:Dp a b l st):st.length=l.length:=by have:=h.1;simpa using this
theorem Fp.len {c:β×β→Int} {a b:Int} {l st:List β} (h:Fp c a b l st):st.length=l.length:=by have:=h.1.1;simpa using this
def M9 (c:β×β→Int) (hi first lo:Int) (l st:List β):Prop:=st.length=l.length∧st.toArray=siftDown (Cs c) hi.toNat first.toNat lo.toNat l.toArray
theorem M9.len {c:β×β→Int} {hi first lo:Int} {l st:List β} (h:M9 c hi first lo l st):st.length=l.length:=h.1
abbrev PE (c:β×β→Int) (a b pv:Int) (l:List β):Nat×Array β:=partitionEqual (Cs c) l.toArray a.toNat b.toNat pv.toNat
abbrev PA (c:β×β→Int) (a b pv:Int) (l:List β):Nat×Bool×Array β:=partition (Cs c) l.toArray a.toNat b.toNat pv.toNat
def Qz (c:β×β→Int) (a b pv:Int) (l st:List β):Prop:=st.length=l.length∧st.toArray=(PE c a b pv l).2
def OQ (c:β×β→Int) (a b pv:Int) (l st:List β):Prop:=st.length=l.length∧st.toArray=(PA c a b pv l).2.2
theorem Qz.len {c:β×β→Int} {a b pv:Int} {l st:List β} (h:Qz c a b pv l st):st.length=l.length:=h.1
theorem OQ.len {c:β×β→Int} {a b pv:Int} {l st:List β} (h:OQ c a b pv l st):st.length=l.length:=h.1
theorem WW {c:β×β→Int} {a b pv:Int} {l:List β} (h0:0≤a) (hab:a<b) (ha:a.toNat<l.length) (hp:pv.toNat<l.length):eu c a (a+1) (b-1) ((l.set a.toNat (l[pv.toNat]'hp)).set pv.toNat (l[a.toNat]'ha)).toArray=PE c a b pv l:=by
 unfold eu PE partitionEqual
 rw [sw ha hp,show (a+1).toNat=a.toNat+1 by omega,show (b-1).toNat=b.toNat-1 by omega]
theorem J4 {c:β×β→Int} {a b pv:Int} {l:List β} (h0:0≤a) (hab:a<b) (ha:a.toNat<l.length) (hp:pv.toNat<l.length) {st:List β} {j:Int}
  (h:cU c a (a+1) (b-1) ((l.set a.toNat (l[pv.toNat]'hp)).set pv.toNat (l[a.toNat]'ha)).toArray=(j.toNat,st.toArray)) (hj:j.toNat<st.length) (has:a.toNat<st.length):(PA c a b pv l).1=j.toNat∧((st.set j.toNat (st[a.toNat]'has)).set a.toNat (st[j.toNat]'hj)).toArray=(PA c a b pv l).2.2:=by
 unfold cU at h
 rw [sw ha hp,show (a+1).toNat=a.toNat+1 by omega,show (b-1).toNat=b.toNat-1 by omega] at h
 unfold PA
 rw [partition_fst,partition_arr,h,sw hj has]
 exact ⟨rfl,rfl⟩
theorem Dp.refl (a b:Int) (l:List β):Dp a b l l:=permIn_refl _ _ _
theorem Dp.swap {a b i j:Int} {l st:List β} (h:Dp a b l st) (hi:i.toNat<st.length) (hj:j.toNat<st.length) (h1:a.toNat≤i.toNat) (h2:i.toNat<b.toNat) (h3:a.toNat≤j.toNat) (h4:j.toNat<b.toNat) (hb:b.toNat≤l.length):
  Dp a b l ((st.set i.toNat (st[j.toNat]'hj)).set j.toNat (st[i.toNat]'hi)):=by
 unfold Dp
 rw [sw hi hj]
 exact permIn_trans _ _ _ _ _ h (swp_permIn _ _ _ _ _ h1 h2 h3 h4 (by have:=h.len;simp;omega))
theorem Dp.trans {a b:Int} {l m st:List β} (h:Dp a b l m) (k:Dp a b m st):Dp a b l st:=permIn_trans _ _ _ _ _ h k
theorem OR {c:β×β→Int} (hw:SWO (Cs c)) {a b pv:Int} {l st:List β} (h:OQ c a b pv l st) (h0:0≤a) (Np:a≤pv) (UW:pv<b) (hb:b.toNat≤l.length):Dp a b l st∧M8 (Cs c) a.toNat b.toNat (PA c a b pv l).1 st.toArray:=by
 obtain ⟨h1,h2,h3,h4,h5⟩:=partition_holds (Cs c) hw l.toArray a.toNat b.toNat pv.toNat (by omega) (by omega) (by simpa using hb)
 unfold Dp
 rw [h.2]
 exact ⟨h3,h1,h2,h4,h5⟩
theorem PS.eqL {c:β×β→Int} (hw:SWO (Cs c)) {a0 b0:Nat} {a b pv k:Int} {l st t:List β} (h:PS (Cs c) a0 b0 a.toNat b.toNat l.toArray st.toArray) (hs:b0≤l.toArray.size) (ht:Qz c a b pv st t) (h0:0<a) (hab:a<b) (hk:k=a-1) (O3:k.toNat<st.length) (Np:a≤pv) (UW:pv<b) (hpl:pv.toNat<st.length) (hb:b.toNat≤st.length)
  (hc:0≤c (st[k.toNat]'O3,st[pv.toNat]'hpl)):PS (Cs c) a0 b0 (PE c a b pv st).1 b.toNat l.toArray t.toArray∧a.toNat<(PE c a b pv st).1∧(PE c a b pv st).1≤b.toNat:=by
 have hlt:Cs c st.toArray[a.toNat-1]! st.toArray[pv.toNat]! =false:=by rw [show a.toNat-1=k.toNat by omega,gx O3,gx hpl];exact Hv (by omega)
 have hmin:∀i,a.toNat≤i→i<b.toNat→Cs c st.toArray[i]! st.toArray[pv.toNat]! =false:=fun i h1 h2=>by
  rcases h.below with hb|hb
  · omega
  · exact hw.ntrans _ _ _ (hb i h1 h2) hlt
 obtain ⟨h1,h2,h3,h4,h5⟩:=partitionEqual_holds (Cs c) hw st.toArray a.toNat b.toNat pv.toNat (by omega) (by omega) (by simpa using hb) hmin
 refine ⟨?_,h1,h2⟩
 rw [ht.2]
 exact PS.eq hw h hs (by omega) hlt h1 h2 h3 h4 h5
theorem Dp.whole {l st:List β} (h:Dp 0 l.length l st):st.Perm l:=by
 have:=h.2.2
 have e:=h.len
 rwa [show ((l.length:Nat):Int).toNat=l.toArray.size by simp,show (0:Int).toNat=0 from rfl,Array.extract_size,show l.toArray.size=st.toArray.size by simp [e],Array.extract_size] at this
end
section
open Go
variable {P:Program} {L:Lg P} {n:Fm} {fz:Nat} {E:Env} {M0:Av} {w0:World} {S:Nat→Prop} {rs:List BS} {new:Bool} {b:Nat} {T:TypeId} {ps:List Pr}
theorem St.YQ (j:Nat) (qs:List Pr) (hj:rs[j]? =some (AA new b T ps)) (hl:O7 ps qs) {a:Act} {w:World} (h:St n E (Hp M0 w0 S rs) a w):St n E (Hp M0 w0 S (rs.set j (AA new b T qs))) a w:=by
 obtain ⟨M,h1,h2,h3,h4⟩:=h
 have h4:Bl M0 w0 S rs M w:=h4
 obtain ⟨hM,cs,hb,hc,ho⟩:=(h4.hold _ (List.mem_of_getElem? hj)).1
 exact ⟨M,h1,h2,h3,h4.Dr hj rfl rfl ⟨hM,cs,hb,hl.hl hc,ho⟩⟩
theorem Tr.YQ {Q:Exit→Act→World→Prop} {c:Code} (j:Nat) (qs:List Pr) (hj:rs[j]? =some (AA new b T ps)) (hl:O7 ps qs) (k:Tr L n E (Hp M0 w0 S (rs.set j (AA new b T qs))) c Q):Tr L n E (Hp M0 w0 S rs) c Q:=Tr.conv (fun _ _ hs=>hs.YQ j qs hj hl) k
end
end Cp
namespace Cp
open Go Go.RowKit Go.Great
section
variable {P:Program} {L:Lg P} {n:Fm} {fz:Nat} {E:Env} {I:Ci} {Q:Exit→Act→World→Prop}
theorem Tr.ZP {α0:Type} (K:Env) (hK:C7 E K) (F:α0→Env) (Ii:α0→Ci) (C:α0→Prop) {x y:Code} (h:Tr L n E I x (Exit.then (fun a w=>∃x0,C x0∧St n (F x0++K) (Ii x0) a w) Q))
  (k:∀x0,C x0→Tr L n (F x0++K) (Ii x0) y Q):Tr L n E I (.seq x y) Q:=
 Tr.cut (fun y:α0=>F y++K) (fun y=>Ii y) (fun y=>C y) (Tr.post h fun e a w h=>by cases e<;>first|exact h|(obtain ⟨x0,h1,h2⟩:=h;exact ⟨x0,h1,h2⟩)) fun y hy=>k y hy
theorem Tr.ZQ {α0 α1:Type} (K:Env) (hK:C7 E K) (F:α0→α1→Env) (Ii:α0→α1→Ci) (C:α0→α1→Prop) {x y:Code} (h:Tr L n E I x (Exit.then (fun a w=>∃x0 x1,C x0 x1∧St n (F x0 x1++K) (Ii x0 x1) a w) Q))
  (k:∀x0 x1,C x0 x1→Tr L n (F x0 x1++K) (Ii x0 x1) y Q):Tr L n E I (.seq x y) Q:=
 Tr.cut (fun y:α0×α1=>F y.1 y.2++K) (fun y=>Ii y.1 y.2) (fun y=>C y.1 y.2) (Tr.post h fun e a w h=>by cases e<;>first|exact h|(obtain ⟨x0,x1,h1,h2⟩:=h;exact ⟨(x0,x1),h1,h2⟩)) fun y hy=>k y.1 y.2 hy
theorem Tr.ZR {α0 α1 α2:Type} (K:Env) (hK:C7 E K) (F:α0→α1→α2→Env) (Ii:α0→α1→α2→Ci) (C:α0→α1→α2→Prop) {x y:Code} (h:Tr L n E I x (Exit.then (fun a w=>∃x0 x1 x2,C x0 x1 x2∧St n (F x0 x1 x2++K) (Ii x0 x1 x2) a w) Q))
  (k:∀x0 x1 x2,C x0 x1 x2→Tr L n (F x0 x1 x2++K) (Ii x0 x1 x2) y Q):Tr L n E I (.seq x y) Q:=
 Tr.cut (fun y:α0×α1×α2=>F y.1 y.2.1 y.2.2++K) (fun y=>Ii y.1 y.2.1 y.2.2) (fun y=>C y.1 y.2.1 y.2.2) (Tr.post h fun e a w h=>by cases e<;>first|exact h|(obtain ⟨x0,x1,x2,h1,h2⟩:=h;exact ⟨(x0,x1,x2),h1,h2⟩)) fun y hy=>k y.1 y.2.1 y.2.2 hy
theorem Tr.ZS {α0 α1 α2 α3:Type} (K:Env) (hK:C7 E K) (F:α0→α1→α2→α3→Env) (Ii:α0→α1→α2→α3→Ci) (C:α0→α1→α2→α3→Prop) {x y:Code} (h:Tr L n E I x (Exit.then (fun a w=>∃x0 x1 x2 x3,C x0 x1 x2 x3∧St n (F x0 x1 x2 x3++K) (Ii x0 x1 x2 x3) a w) Q))
  (k:∀x0 x1 x2 x3,C x0 x1 x2 x3→Tr L n (F x0 x1 x2 x3++K) (Ii x0 x1 x2 x3) y Q):Tr L n E I (.seq x y) Q:=
 Tr.cut (fun y:α0×α1×α2×α3=>F y.1 y.2.1 y.2.2.1 y.2.2.2++K) (fun y=>Ii y.1 y.2.1 y.2.2.1 y.2.2.2) (fun y=>C y.1 y.2.1 y.2.2.1 y.2.2.2) (Tr.post h fun e a w h=>by cases e<;>first|exact h|(obtain ⟨x0,x1,x2,x3,h1,h2⟩:=h;exact ⟨(x0,x1,x2,x3),h1,h2⟩)) fun y hy=>k y.1 y.2.1 y.2.2.1 y.2.2.2 hy
end
section
variable {P:Program} {L:Lg P} {n:Fm} {fz:Nat} {E:Env} {M0:Av} {w0:World} {S:Nat→Prop} {rs:List BS} {β:Type} {e:TypeId} {sz:Nat} {f:β→List Pr} {Φ:List β→Prop} {v:Value}
end
section
variable {P:Program} {L:Lg P} {n:Fm} {fz:Nat} {E:Env} {M0:Av} {w0:World} {S:Nat→Prop} {rs:List BS} {o:Oper}
end
section
variable {P:Program} {L:Lg P} {n:Fm} {fz:Nat} {E:Env} {M0:Av} {w0:World} {S:Nat→Prop} {rs:List BS} {ε:Type} {res:ε→List BS}
def iE (res:ε→List BS) (es:List ε):List BS:=es.flatMap res
theorem WX:∀{es:List ε} {k:Nat} {x:ε},es[k]? =some x→(iE res es).Perm (res x++iE res (es.eraseIdx k))
 |[],_,_,h=>by simp at h
 |a::es,0,x,h=>by
  simp only [List.getElem?_cons_zero,Option.some.injEq] at h
  subst h
  exact List.Perm.refl _
 |a::es,k+1,x,h=>by
  have ih:=WX (es:=es) (k:=k) (x:=x) (by simpa using h)
  show (res a++iE res es).Perm (res x++(res a++iE res (es.eraseIdx k)))
  refine (ih.append_left (res a)).trans ?_
  rw [←List.append_assoc,←List.append_assoc]
  exact List.perm_append_comm.append_right _
theorem SX {a b c:List BS} (h:b.Perm c):(a++b).Perm (a++c):=h.append_left a
theorem St.perm {rs':List BS} (hp:rs.Perm rs') {a:Act} {w:World} (h:St n E (Hp M0 w0 S rs) a w):St n E (Hp M0 w0 S rs') a w:=by
 obtain ⟨M,h1,h2,h3,h4⟩:=h
 exact ⟨M,h1,h2,h3,Bl.perm hp h4⟩
theorem Tr.focus {Q:Exit→Act→World→Prop} {c:Code} (cV:List BS) {es:List ε} {k:Nat} {x:ε} (hx:es[k]? =some x) (hrs:rs=cV++iE res es) (kk:Tr L n E (Hp M0 w0 S (res x++(cV++iE res (es.eraseIdx k)))) c Q):Tr L n E (Hp M0 w0 S rs) c Q:=
 Tr.conv (fun _ _ hs=>hs.perm (by
  subst hrs
  refine (SX (WX hx)).trans ?_
  rw [←List.append_assoc,←List.append_assoc]
  exact List.perm_append_comm.append_right _)) kk
theorem St.Jc {e:TypeId} {sz b cap m:Nat} {rows:List (List Pr)} {sp:List Value} (j:Nat) (hj:rs[j]? =some (AA true b e (rows.flatten++sp.map is))) (hm:rows.length=m) (h1:m≤cap) (h2:cap≤maxLen) (h3:sp.length=(cap-m)*sz) {a:Act} {w:World} (h:St n E (Hp M0 w0 S rs) a w):St n E (Hp M0 w0 S (rs.set j (Dw e sz rows (.slice (some ⟨b,0,none⟩) m cap)))) a w:=by
 subst hm
 obtain ⟨M,g1,g2,g3,g4⟩:=h
 have g4:Bl M0 w0 S rs M w:=g4
 exact ⟨M,g1,g2,g3,g4.Dr hj rfl rfl (.inr ⟨b,cap,sp,rfl,h1,h2,h3,(g4.hold _ (List.mem_of_getElem? hj)).1⟩)⟩
theorem Fin.Jc {Q:Exit→Act→World→Prop} {x:Exit} {e:TypeId} {sz b cap m:Nat} {rows:List (List Pr)} {sp:List Value} (j:Nat) (hj:rs[j]? =some (AA true b e (rows.flatten++sp.map is))) (hm:rows.length=m) (h1:m≤cap) (h2:cap≤maxLen) (h3:sp.length=(cap-m)*sz)
  (k:Fin n E (Hp M0 w0 S (rs.set j (Dw e sz rows (.slice (some ⟨b,0,none⟩) m cap)))) Q x):Fin n E (Hp M0 w0 S rs) Q x:=Fin.conv (fun _ _ hs=>hs.Jc j hj hm h1 h2 h3) k
end
section
variable {P:Program} {L:Lg P} {n:Fm} {fz:Nat} {E:Env} {M0:Av} {w0:World} {S:Nat→Prop} {rs:List BS} {o:Oper}
theorem JL {w:World} {dT sT ty e:TypeId} {g off dLen dCap sLen sCap sz m:Nat} {a:Addr} {cur:Array Value} {t:TypeId} {cs:List Value} (hu:P.underlying dT=some (.slice e)) (hz:Aw P e=some sz)
  (hg:w.heap[g]? =some (.cells cur t (0,0))) (hm:m=Nat.min sLen dLen) (hn:cs.length=m*sz) (hsrc:∀j v,cs[j]? =some v→w.cell? (a.add j)=some v) (hfit:off+cs.length≤cur.size) (h1:∀v∈cs,v.oneCell'=true):
  (Builtin.copy_ #[dT,sT] ty #[.slice (some ⟨g,off,none⟩) dLen dCap,.slice (some a) sLen sCap]).run P w= .ok (goInt m) (w.setRow g (cur.toList.take off++cs++cur.toList.drop (off+cs.length)).toArray):=by
 have hl:=run_loadCells_list (P:=P) w a cs hsrc
 have hst:=run_storeCells_at P g off t cs 0 cur w hg (by simpa using hfit) h1
 unfold Aw at hz
 cases hq:P.info? e with
 |none=>rw [hq] at hz;cases hz
 |some i=>
  have hi:i.size=sz:=by simpa [hq] using hz
  rw [hn] at hl
  simp [Builtin.copy_,run_underlying hu,Builtin.lenOf,Builtin.firstCells,Go.sizeOf,typeInfo,hq,hi,←hm,hl,hst]
theorem G9 {dT sT e:TypeId} {x y:Operand} {j:Nat} {new:Bool} {b off m cap sz d:Nat} {T:TypeId} {ps ps':List Pr} {rows:List (List Pr)} (hg:o.guard=none) (hd:o.dst=some d) (ho:o.op= .call { callee:= .builtin .copy,args:= #[x,y],argTypes:= #[dT,sT] })
  (ht:P.underlying dT=some (.slice e)) (hz:Aw P e=some sz) (hsz:0<sz) (hx:VL E x (is (.slice (some ⟨b,off,none⟩) m cap))) (hy:VL E y (slice sz rows)) (hpos:0<rows.length) (hm:rows.length≤m) (hl:off+rows.length*sz≤ps.length)
  (hps:ps.take off++rows.flatten++ps.drop (off+rows.length*sz)=ps'):E6 P M0 w0 S n j (SR.c (AA new b T ps)) (SR.c (AA new b T ps')) o E (int (rows.length:Nat)):=by
 refine ⟨hg,fun M w a rs H_ he hI hj=> ?_⟩
 have h1:a.eval x=_:=hx.ev he (by simp [ho,Op.operands,Call.operands])
 have h2:=hy.ev he (by simp [ho,Op.operands,Call.operands])
 obtain ⟨⟨_,cs,h4,h5,h6⟩,_⟩:=hI.hold _ (List.mem_of_getElem? hj)
 have YN:=h5.length
 have h2':=h2
 obtain ⟨A',c',hv,Yg,O4,Vu,El⟩:=h2
 obtain ⟨Ke,rfl⟩:∃Ke,A'=some Ke:=by
  obtain ⟨_,b,hb,_⟩:=El 0 _ (List.getElem?_eq_getElem hpos)
  exact ⟨b,hb⟩
 rw [hv] at h2'
 obtain ⟨news,hfl,hcell⟩:=Ek hsz h2'
 have Mz:=hfl.1
 have hrun:=JL (P:=P) (w:=w) (sT:=sT) (ty:=o.type) (g:=b) (off:=off) (dLen:=m) (dCap:=cap) (sLen:=rows.length) (sCap:=c') (m:=rows.length) (a:=Ke) (cur:=cs.toArray) (t:=T) (cs:=news) ht hz h4 (Nat.min_eq_left hm).symm Mz (fun k u hk=>(hcell k u hk).1) (by simp [Mz];omega) hfl.2.1
 have DT:(execOp a.eval o).run P w= .ok (.value (goInt rows.length)) (w.setRow b (cs.take off++news++cs.drop (off+news.length)).toArray):=by
  simp [execOp,ho,h1,hv,resolve,invoke,builtin,hrun]
 rw [DT]
 obtain ⟨h7, h8⟩ := Bl.write (qs := ps') (cs := cs.take off ++ news ++ cs.drop (off + news.length)) hI hj (by rw [← hps, Mz]; exact ((h5.take off).app (hfl.hl hsz)).app (h5.drop _))
  (fun c hc=>by
   simp only [List.mem_append] at hc
   rcases hc with (hc|hc)|hc
   · exact h6 c (List.mem_of_mem_take hc)
   · exact hfl.2.1 c hc
   · exact h6 c (List.mem_of_mem_drop hc))
 exact ⟨M,rfl,h8,h7⟩
theorem Q0 {dT sT e:TypeId} {x y:Operand} {j:Nat} {new:Bool} {b off off2 m dl cap LZ sz d:Nat} {T:TypeId} {ps ps':List Pr} (hg:o.guard=none) (hd:o.dst=some d) (ho:o.op= .call { callee:= .builtin .copy,args:= #[x,y],argTypes:= #[dT,sT] })
  (ht:P.underlying dT=some (.slice e)) (hz:Aw P e=some sz) (hx:VL E x (is (.slice (some ⟨b,off,none⟩) dl cap))) {sl:Nat} (hy:VL E y (is (.slice (some ⟨b,off2,none⟩) sl LZ))) (hm:m=Nat.min sl dl) (hl:off+m*sz≤ps.length) (kU:off2+m*sz≤ps.length)
  (hps:ps.take off++(ps.drop off2).take (m*sz)++ps.drop (off+m*sz)=ps'):E6 P M0 w0 S n j (SR.c (AA new b T ps)) (SR.c (AA new b T ps')) o E (int (m:Nat)):=by
 refine ⟨hg,fun M w a rs H_ he hI hj=> ?_⟩
 have h1:a.eval x=_:=hx.ev he (by simp [ho,Op.operands,Call.operands])
 have h2:a.eval y=_:=hy.ev he (by simp [ho,Op.operands,Call.operands])
 obtain ⟨⟨_,cs,h4,h5,h6⟩,_⟩:=hI.hold _ (List.mem_of_getElem? hj)
 have YN:=h5.length
 have Mz:((cs.drop off2).take (m*sz)).length=m*sz:=by rw [List.length_take,List.length_drop];omega
 have hrun:=JL (P:=P) (w:=w) (sT:=sT) (ty:=o.type) (g:=b) (off:=off) (dLen:=dl) (dCap:=cap) (sLen:=sl) (sCap:=LZ) (m:=m) (a:=⟨b,off2,none⟩) (cur:=cs.toArray) (t:=T) (cs:=(cs.drop off2).take (m*sz)) ht hz h4 hm Mz (fun k u hk=>by
   rw [Cv]
   rw [List.getElem?_take] at hk
   split at hk
   · rw [List.getElem?_drop] at hk;simp [World.cell?,h4,hk]
   · cases hk) (by simp [Mz];omega) (fun v hv=>h6 v (List.mem_of_mem_drop (List.mem_of_mem_take hv)))
 have DT:(execOp a.eval o).run P w= .ok (.value (goInt m)) (w.setRow b (cs.take off++(cs.drop off2).take (m*sz)++cs.drop (off+((cs.drop off2).take (m*sz)).length)).toArray):=by
  simp [execOp,ho,h1,h2,resolve,invoke,builtin,hrun]
 rw [DT]
 obtain ⟨h7, h8⟩ := Bl.write (qs := ps') (cs := cs.take off ++ (cs.drop off2).take (m * sz) ++ cs.drop (off + ((cs.drop off2).take (m * sz)).length)) hI hj (by rw [← hps, Mz]; exact ((h5.take off).app ((h5.drop off2).take _)).app (h5.drop _))
  (fun c hc=>by
   simp only [List.mem_append] at hc
   rcases hc with (hc|hc)|hc
   · exact h6 c (List.mem_of_mem_take hc)
   · exact h6 c (List.mem_of_mem_drop (List.mem_of_mem_take hc))
   · exact h6 c (List.mem_of_mem_drop hc))
 exact ⟨M,rfl,h8,h7⟩
theorem Km {w:World} {tS tR e:TypeId} (ht:P.underlying tS=some (.slice e)) {size:Nat} (hz:∀w,(Go.sizeOf e).run P w= .ok size w) {a b:Addr} {la ca lb cb:Nat} (hne:a.block≠b.block) {tA tB:TypeId} {kA kB:Nat}
  (hsa:w.shape? a.block=some (tA,kA+1)) (hsb:w.shape? b.block=some (tB,kB+1)) (hfb:∀c:Addr,c.block=b.block→w.frozen? c=false):
  (Extern.SlicesOverlaps.overlaps #[tS,tS] #[tR] #[.slice (some a) la ca,.slice (some b) lb cb]).run P w= .ok (.bool false) w:=by
 have hnb:(a.block !=b.block)=true:=by simpa using hne
 have qX:(a.block==b.block)=false:=by simpa using hne
 have hf1:=hfb b rfl
 have N2:=hfb { block:=b.block,off:=kB+1 } rfl
 change Sem.run P (α := Value) (do
  let some t := (#[tS, tS] : Array TypeId)[0]? | stuck "slices.overlaps: no parameter types"
  let .slice elem ← underlying t | stuck "slices.overlaps: slice type expected"
  let size ←sizeOf elem
  match (some a:Option Addr),(some b:Option Addr) with
  |some a,some b=>
   if la=0∨lb=0∨size=0 then pure (Value.bool false)
   else if a.block !=b.block&&(←frozen a)&&(←frozen b) then unsupported .addressObserved
   else do
    if a.block != b.block then do
     noView a;noView b
     if ← mayBeOne a b then return Value.bool ((← choose (.extern "sameAddr.stringBytes" 2)) == 1)
    pure (Value.bool (a.block==b.block&&a.off<b.off+lb*size&&b.off<a.off+la*size))
  |_,_=>pure (Value.bool false)) w=_
 by_cases h0:la=0∨lb=0∨size=0
 · simp [run_underlying ht,hz,h0]
 ·
  cases hfa:w.frozen? a<;>cases qY:w.frozen? { block:=a.block,off:=kA+1 }<;>
   simp [run_underlying ht,hz,h0,hnb,qX,frozen,noView,viewAt,mayBeOne,stringish,shape,Sem.run,hsa,hsb,hfa,qY,hf1,N2]
theorem SY {w:World} {a:Addr} {v:Value} (h:w.cell? a=some v):∃t k,w.shape? a.block=some (t,k+1):=by
 unfold World.cell? at h
 unfold World.shape?
 split at h
 ·
  rename_i c t mk hh
  have hc:c[a.off]? =some v:=by
   split at h
   · cases h
   · exact h
  have:a.off<c.size:=by
   rcases Nat.lt_or_ge a.off c.size with h'|h'
   · exact h'
   · rw [Array.getElem?_eq_none h'] at hc;cases hc
  exact ⟨t,c.size-1,by show some (t,c.size)=_;congr 2;omega⟩
 · cases h
theorem LK {f : FuncId} {fn : Func} {x y : Operand} {ts : Array TypeId} {tS tR e : TypeId} {rows : List (List Pr)} {j : Nat} {new : Bool} {b off m cap sz : Nat} {T : TypeId} {ps : List Pr} (ho : o.op = .call { callee := .value (.func f), args := #[x, y], argTypes := ts }) (hf : P.funcs[f]? = some fn) (hname : (fn.name == "runtime.NumGoroutine") = false)
  (hb:fn.body.isNone=true) (hn:Extern.findNext fn=none) (hex:Extern.find fn=some (Extern.SlicesOverlaps.overlaps #[tS,tS] #[tR])) (ht:P.underlying tS=some (.slice e)) (hz:Aw P e=some sz) (hsz:0<sz) (hx:VL E x (slice sz rows)) (hpos:0<rows.length) (hy:VL E y (is (.slice (some ⟨b,off,none⟩) m cap))) (hps:0<ps.length):
  JS P M0 w0 S j (SR.c (AA new b T ps)) o E (bool false):=by
 intro M w a rs he hI hj
 have h1:=hx.ev he (by simp [ho,Op.operands,Call.operands])
 have h2:a.eval y=_:=hy.ev he (by simp [ho,Op.operands,Call.operands])
 obtain ⟨⟨hM,cs,h4,h5,h6⟩,_⟩:=hI.hold _ (List.mem_of_getElem? hj)
 have YN:=h5.length
 obtain ⟨A',c',hv,Yg,O4,Vu,El⟩:=h1
 obtain ⟨hlen,Ke,rfl,hrow⟩:=El 0 _ (List.getElem?_eq_getElem hpos)
 obtain ⟨p0,jY⟩:∃p0,rows[0][0]? =some p0:=⟨_,List.getElem?_eq_getElem (by rw [hlen];exact hsz)⟩
 obtain ⟨u,hu,hnm,_⟩:=hrow 0 p0 jY
 obtain ⟨tA,kA,hsa⟩:=SY hu
 rw [FM] at hsa
 have hne:Ke.block≠b:=fun e1=>hnm (by rw [e1];exact hM _)
 have hsb:w.shape? b=some (T,(cs.length-1)+1):=by unfold World.shape?;rw [h4];show some (T,cs.toArray.size)=_;congr 2;simp;omega
 have hfb:∀c:Addr,c.block=b→w.frozen? c=false:=fun c hc=>by unfold World.frozen?;rw [hc,h4];simp
 have hzr:∀w,(Go.sizeOf e).run P w= .ok sz w:=fun w=>Bm hz w
 have hov:=Km (P:=P) (w:=w) (tR:=tR) ht hzr (a:=Ke) (b:=⟨b,off,none⟩) (la:=rows.length) (ca:=c') (lb:=m) (cb:=cap) hne hsa hsb hfb
 have h3:a.eval (.func f)= .func (.func f) #[] #[]:=rfl
 have hrun:(execOp a.eval o).run P w=(callFunc f #[a.eval x,a.eval y]).run P w:=by simp [execOp,ho,resolve,Deferred.ofValue,invoke,h3]
 rw [hrun,hv,h2,run_callFunc_extern hf hname hb hn hex,hov]
 exact ⟨rfl,Below.refl _ _⟩
def ZT (e:TypeId) (sz m:Nat) (ps:List Pr) (v:Value):BS where
 Iv:=match v with| .slice (some a) _ _=>some a.block|_=>none
 new:=true
 h M w:=∃(b cap:Nat) (sp:List Value),v= .slice (some ⟨b,0,none⟩) m cap∧m≤cap∧cap≤maxLen∧ps.length+sp.length=cap*sz∧(AA true b e (ps++sp.map is)).h M w
 st M w M' w' he hk h:=by
  obtain ⟨b,cap,sp,rfl,h1,h2,h3,h4⟩:=h
  exact ⟨b,cap,sp,rfl,h1,h2,h3,(AA true b e (ps++sp.map is)).st M w M' w' he hk h4⟩
theorem Ue {M:Av} {w:World} {t tn ty e:TypeId} {sz bytes:Nat} {zs:List Value} {i k cap b:Nat} {j j2:Nat} {kn:IntKind} {T:TypeId} {ps:List Pr} (ht:P.underlying t=some (.slice e)) (htn:P.underlying tn=some (.int kn)) (hz:Aw P e=some sz) (hby:Cm P e=some bytes) (Dy:Bn P e=some zs) (hzl:zs.length=sz) (hone:zs.all (·.oneCell')=true) (hsz:0<sz)
  (h:Bl M0 w0 S rs M w) (hj:rs[j]? =some Bw) (hj2:rs[j2]? =some (AA true b T ps)) (E3:i*sz≤ps.length) (hk:0<k) (hg:cap<i+k) (FE:i+k≤maxLen) (hfit:(i+k)*bytes≤140737488355328):
  ∃v' w' M',(Builtin.append_ #[t,tn] ty #[.slice (some ⟨b,0,none⟩) i cap,.int .i64 (k:Nat)]).run P w= .ok v' w'∧(lens (i+k)).h M' w' v'∧Ext M w M' w'∧Bl M0 w0 S (rs.set j (ZT e sz (i+k) (ps.take (i*sz)) v')) M' w':=by
 obtain ⟨⟨_,cs0,g4,g5,g6⟩,_⟩:=h.hold _ (List.mem_of_getElem? hj2)
 have g5l:=g5.length
 unfold Aw at hz
 unfold Cm at hby
 unfold Bn at Dy
 cases hi:P.info? e with
 |none=>rw [hi] at hz;cases hz
 |some ii=>
  rw [hi] at hz hby Dy
  simp only [Option.map_some,Option.some.injEq,Option.map_eq_some_iff] at hz hby Dy
  obtain ⟨z,QV,Dy⟩:=Dy
  have TY:z.cells.size=sz:=by rw [←hzl,←Dy];simp
  have hol:(cs0.take (i*sz)).length=i*sz:=by rw [List.length_take];omega
  have hold:(Builtin.firstCells ii.size i (.slice (some ⟨b,0,none⟩) i cap)).run P w.drew= .ok (cs0.take (i*sz)).toArray w.drew:=by
   have:=run_loadCells_list (P:=P) w.drew ⟨b,0,none⟩ (cs0.take (i*sz)) (fun q u hq=>by
    rw [Cv]
    rw [List.getElem?_take] at hq
    split at hq
    ·
     have hh:w.drew.heap[b]? =some (.cells cs0.toArray T (0,0)):=g4
     simp [World.cell?,hh,hq]
    · cases hq)
   rw [hol] at this
   simp only [Builtin.firstCells,hz]
   rw [Nat.mul_comm] at this ⊢
   first|exact this|(simp;exact this)
  have hrun:=Lib.run_append_grow_zeros (P:=P) w t tn ty e ii z .i64 kn ht htn hi QV (some ⟨b,0,none⟩) i cap (cs0.take (i*sz)) hold k hk (by rw [hz];exact hsz) hg (by unfold maxLen at FE;omega) (by rw [hby];have:=Nat.mul_le_mul_right bytes (show k≤i+k by omega);omega) (by rw [hby];exact growslice_fits hg hfit)
  generalize hcap:grownCap w (i+k) cap e=cap' at hrun
  have hge:i+k≤cap':=by rw [←hcap];exact grownCap_ge _ _ _ _
  have hle:cap'≤maxLen:=by rw [←hcap];exact grownCap_le_maxLen _ _ _ _ FE
  generalize kg:Builtin.zeroCells z.cells k=z1 at hrun
  generalize kj:Builtin.zeroCells z.cells (cap'-(i+k))=z2 at hrun
  have JA:z1.size=k*sz:=by rw [←kg,size_zeroCells,TY]
  have Vp:z2.size=(cap'-(i+k))*sz:=by rw [←kj,size_zeroCells,TY]
  have iC:∀c∈z1.toList,c.oneCell'=true:=by rw [←kg];exact D0 Dy hone
  have ho2:∀c∈z2.toList,c.oneCell'=true:=by rw [←kj];exact D0 Dy hone
  generalize hcs:((cs0.take (i*sz)).toArray++z1++z2)=cs at hrun
  have ko:cs.toList=cs0.take (i*sz)++(z1.toList++z2.toList):=by rw [←hcs];simp
  have Qv:∀c∈cs.toList,c.oneCell'=true:=by
   intro c hc
   rw [ko] at hc
   simp only [List.mem_append] at hc
   rcases hc with hc|hc|hc
   · exact g6 c (List.mem_of_mem_take hc)
   · exact iC c hc
   · exact ho2 c hc
  have hb:Below w.heap.size w (w.drew.alloc (.cells cs e)):=((Below.refl _ _).drew).alloc (Nat.le_refl _) _
  have h2:=Ext.below (M:=M) hb
  have D3:Ext M w (fun b o=>M b o∨b=w.heap.size) (w.drew.alloc (.cells cs e)):=by
   refine ⟨h2.size,fun a v hc hm=>⟨fun hx=> ?_,(h2.keep a v hc hm).2⟩,fun b o ho hp hm=>⟨fun hx=> ?_,(h2.obj b o ho hp hm).2⟩⟩
   ·
    rcases hx with hx|hx
    · exact hm hx
    · have:=D6 hc;omega
   ·
    rcases hx with hx|hx
    · exact hm hx
    · subst hx;simp at ho
  have hs1:(w.drew.alloc (.cells cs e)).heap.size=w.heap.size+1:=by simp
  refine ⟨_,_,fun b o=>M b o∨b=w.heap.size,hrun,⟨_,_,rfl⟩,D3,?_⟩
  refine h.replace hj D3 hb.os hb.tape hb.output (fun k hk _=>hb.block k hk) rfl (fun b o hm _=> .inl hm) (fun b o hx=> ?_) ?_ rfl (fun b hbk=> ?_)
  ·
   rcases hx with hx|hx
   · have:=h.bd _ _ hx;omega
   · omega
  ·
   refine ⟨w.heap.size,cap',z1.toList++z2.toList,rfl,hge,hle,?_,fun o=> .inr rfl,cs.toList,?_,?_,Qv⟩
   · rw [List.length_take,Nat.min_eq_left E3,List.length_append,Array.length_toList,Array.length_toList,JA,Vp,←Nat.add_mul,←Nat.add_mul];congr 1;omega
   ·
    have hh:(w.drew.alloc (.cells cs e)).heap[w.heap.size]? =some (.cells cs e (0,0)):=heap_alloc_new w.drew _
    rw [hh]
   · rw [ko];exact ((g5.take _).st D3).app (LA _ _ _)
  ·
   have EH:some w.heap.size=some b:=hbk
   injection EH with e1
   subst e1
   exact ⟨by rw [hs1];omega,.inr (Nat.le_refl _)⟩
theorem TO.cW {Q:Exit→Act→World→Prop} {ops:Array Oper} {r:List Oper} {t tn e:TypeId} {x y:Operand} (j j2:Nat) {sz bytes d:Nat} {zs:List Value} {i k cap b:Nat} {kk:Int} {kn:IntKind} {T:TypeId} {ps:List Pr} (hj:rs[j]? =some Bw) (hj2:rs[j2]? =some (AA true b T ps)) (hg:o.guard=none) (hd:o.dst=some d) (hn:d<n) (ho:o.op= .call { callee:= .builtin .append,args:= #[x,y],argTypes:= #[t,tn] })
  (ht:P.underlying t=some (.slice e)) (htn:P.underlying tn=some (.int kn)) (hz:Aw P e=some sz) (hby:Cm P e=some bytes) (Dy:Bn P e=some zs) (hzl:zs.length=sz) (hone:zs.all (·.oneCell')=true) (hsz:0<sz)
  (hx:VL E x (is (.slice (some ⟨b,0,none⟩) i cap))) (hy:VL E y (int kk)) (hkk:kk=(k:Nat)) (E3:i*sz≤ps.length) (hk:0<k) (hgr:cap<i+k) (FE:i+k≤maxLen) (hfit:(i+k)*bytes≤140737488355328)
  (kq:∀(b2 LZ:Nat) (sp:List Value),i+k≤LZ→LZ≤maxLen→(ps.take (i*sz)).length+sp.length=LZ*sz→TO P n ops r ((d,is (.slice (some ⟨b2,0,none⟩) (i+k) LZ))::E) (Hp M0 w0 S (rs.set j (AA true b2 e (ps.take (i*sz)++sp.map is)))) Q):TO P n ops (o::r) E (Hp M0 w0 S rs) Q:=
 TO.UQ hg fun K M w a H_ hdf he hI hK=>by
  have hI:Bl M0 w0 S rs M w:=hI
  have YR:=Ca (o:=o) he
  have h1:a.eval x=_:=hx.ev YR (by simp [ho,Op.operands,Call.operands])
  have h2:a.eval y= .int .i64 kk:=hy.ev YR (by simp [ho,Op.operands,Call.operands])
  have hjl:j<rs.length:=by rcases Nat.lt_or_ge j rs.length with h|h;exact h;rw [List.getElem?_eq_none h] at hj;cases hj
  obtain ⟨v',w',M',hrun,h3,h4,h5⟩:=Ue (ty:=o.type) ht htn hz hby Dy hzl hone hsz hI hj hj2 E3 hk hgr FE hfit
  have DT:(execOp a.eval o).run P w= .ok (.value v') w':=by rw [hkk] at h2;simp [execOp,ho,resolve,invoke,builtin,h1,h2,hrun]
  obtain ⟨b2,LZ,sp,rfl,q1,q2,q3,q4⟩:=(h5.hold _ (List.mem_of_getElem? (List.getElem?_set_self hjl))).1
  have h6:Bl M0 w0 S (rs.set j (AA true b2 e (ps.take (i*sz)++sp.map is))) M' w':=by
   have:=h5.Dr (r':=AA true b2 e (ps.take (i*sz)++sp.map is)) (List.getElem?_set_self hjl) rfl rfl q4
   rwa [List.set_set] at this
  have hgv:Oz P M0 w0 S o a M w (is (.slice (some ⟨b2,0,none⟩) (i+k) LZ)) j (SR.c (AA true b2 e (ps.take (i*sz)++sp.map is))) rs ((execOp a.eval o).run P w):=by
   rw [DT];exact ⟨M',rfl,h4,h6⟩
  refine HN hgv fun v w'' M'' hv hxt Ls=>hK _ _ _ _ (kq b2 LZ sp q1 q2 q3) ⟨M'',by rw [CF];exact H_,by rw [put_defers];exact hdf,?_,Ls⟩
  intro s q hq
  simp only [List.lookup] at hq
  by_cases hs:s=d
  · subst hs;simp at hq;subst hq;rw [hd,B4 (by rw [H_];exact hn)];exact hv
  · rw [show (s==d)=false by simpa using hs] at hq;rw [hd,CD hs];exact q.st _ _ _ _ _ hxt (he s q hq)
end
section
variable {P:Program} {L:Lg P} {n:Fm} {fz:Nat} {E:Env} {M0:Av} {w0:World} {S:Nat→Prop} {rs:List BS} {o:Oper}
theorem To {I:Ci} {t e:TypeId} {x:Operand} {A:Option Addr} {m cap:Nat} (ho:o.op= .call { callee:= .builtin .cap,args:= #[x],argTypes:= #[t] }) (ht:P.underlying t=some (.slice e)) (hx:VL E x (is (.slice A m cap))):Af P I o E (int cap):=
 Af.same fun M w a he _=>by
  have h1:a.eval x=_:=hx.ev he (by simp [ho,Op.operands,Call.operands])
  exact ⟨.int .i64 cap,by simp [execOp,ho,resolve,invoke,builtin,Builtin.cap_,h1,run_underlying ht,goInt],rfl⟩
theorem J5 {I:Ci} {t e:TypeId} {x y:Operand} {k:IntKind} {h:Int} {sz b m cap:Nat} (ho:o.op= .slice t x none (some y) none) (ht:P.underlying t=some (.slice e)) (hz:Aw P e=some sz) (hx:VL E x (is (.slice (some ⟨b,0,none⟩) m cap))) (hy:VL E y (is (.int k h))) (h0:0≤h) (hl:h≤cap) (h1m:0<cap):
  Af P I o E (is (.slice (some ⟨b,0,none⟩) h.toNat cap)):=
 Af.same fun M w a he _=>by
  have h1:a.eval x=_:=hx.ev he (by simp [ho,Op.operands])
  have h3:a.eval y=_:=hy.ev he (by simp [ho,Op.operands])
  refine ⟨_,?_,rfl⟩
  simp [execOp,ho,h1,h3,Instr.sliceAt,Instr.slice,run_underlying ht,Instr.sliceBounds,Instr.sliceBound,asIntOf,h0,hl,Bm hz]
  intro _;rfl
theorem J6 {I:Ci} {t e:TypeId} {x y:Operand} {k:IntKind} {l:Int} {sz b m cap:Nat} (ho:o.op= .slice t x (some y) none none) (ht:P.underlying t=some (.slice e)) (hz:Aw P e=some sz) (hx:VL E x (is (.slice (some ⟨b,0,none⟩) m cap))) (hy:VL E y (is (.int k l))) (h0:0≤l) (hl:l≤m) (hc:m≤cap):
  Af P I o E (lens (m-l.toNat)):=
 Af.same fun M w a he _=>by
  have h1:a.eval x=_:=hx.ev he (by simp [ho,Op.operands])
  have h3:a.eval y=_:=hy.ev he (by simp [ho,Op.operands])
  have hb:l≤(m:Int):=by omega
  refine ⟨.slice (if cap=l.toNat then some ⟨b,0,none⟩ else some ⟨b,l.toNat*sz,none⟩) (m-l.toNat) (cap-l.toNat),?_,_,_,rfl⟩
  by_cases hne:cap=l.toNat<;>
  simp [execOp,ho,h1,h3,Instr.sliceAt,Instr.slice,run_underlying ht,Instr.sliceBounds,Instr.sliceBound,asIntOf,h0,hb,Bm hz,hne,Cv]
theorem Tr.Jc {Q:Exit→Act→World→Prop} {c:Code} {e:TypeId} {sz b cap m:Nat} {rows:List (List Pr)} {sp:List Value} {ps:List Pr} (j:Nat) (hj:rs[j]? =some (AA true b e ps)) (hps:ps=rows.flatten++sp.map is) (hm:rows.length=m) (h1:m≤cap) (h2:cap≤maxLen) (h3:sp.length=(cap-m)*sz)
  (k:Tr L n E (Hp M0 w0 S (rs.set j (Dw e sz rows (.slice (some ⟨b,0,none⟩) m cap)))) c Q):Tr L n E (Hp M0 w0 S rs) c Q:=Tr.conv (fun _ _ hs=>hs.Jc j (by rw [hj,hps]) hm h1 h2 h3) k
theorem Fin.Kn {Q:Exit→Act→World→Prop} {x:Exit} {e:TypeId} {sz b cap m:Nat} {rows:List (List Pr)} {sp:List Value} {ps:List Pr} (j:Nat) (hj:rs[j]? =some (AA true b e ps)) (hps:ps=rows.flatten++sp.map is) (hm:rows.length=m) (h1:m≤cap) (h2:cap≤maxLen) (h3:sp.length=(cap-m)*sz)
  (k:Fin n E (Hp M0 w0 S (rs.set j (Dw e sz rows (.slice (some ⟨b,0,none⟩) m cap)))) Q x):Fin n E (Hp M0 w0 S rs) Q x:=Fin.conv (fun _ _ hs=>hs.Jc j (by rw [hj,hps]) hm h1 h2 h3) k
theorem BE.Jd {f:FuncId} {e:TypeId} {sz:Nat} {rows:List (List Pr)} {ps:List Pr} {res:Pr} {R:BS} (h:BE P f ps res R (fun v=>C8 e sz rows v)):BE P f ps res R (fun v=>Dw e sz rows v):=by
 refine ⟨h.1,fun M0 w0 S rs M w vs hI hv=>(h.2 M0 w0 S rs M w vs hI hv).mono ?_⟩
 rintro e' w' ⟨v,M',rfl,h2,h3,h4⟩
 exact ⟨v,M',rfl,h2,h3,h4.Dr (i:=0) rfl rfl rfl (.inr (h4.hold _ (List.mem_cons_self ..)).1)⟩
instance iF (p q:Pr) [Kj p] [Kj q]:Kj (Eu [p,q]):=⟨fun M M' w v ⟨cs,h1,h2⟩=>⟨cs,h1,by
 match cs,h2 with
 |[a,b],h2=>exact ⟨Kj.free _ _ _ _ h2.1,Kj.free _ _ _ _ h2.2.1,trivial⟩⟩⟩
theorem WY {I:Ci} {s t:TypeId} {x:Operand} {k:IntKind} {n:Int} (ho:o.op= .convert s t x) (hs:P.underlying s=some (.int k)) (ht:P.underlying t=some (.int .u64)) (hx:VL E x (is (.int k n))) (h0:0≤n) (h1:n≤18446744073709551615):Af P I o E (is (.int .u64 n)):=by
 have:=C0 (P:=P) (I:=I) ho hs ht hx
 rwa [IntWalk.u64_in n ⟨h0,h1⟩] at this
theorem ZU {I:Ci} {t u:TypeId} {x y:Operand} {m:Int} (ho:o.op= .binOp .shr t x y u) (hx:VL E x (is (.int .u64 m))) (hy:VL E y (is (.int .u64 1))) (h0:0≤m):Af P I o E (is (.int .u64 (m/2))):=
 Af.same fun M w a he _=>by
  have h1:a.eval x= .int .u64 m:=hx.ev he (by simp [ho,Op.operands])
  have h2:a.eval y= .int .u64 1:=hy.ev he (by simp [ho,Op.operands])
  refine ⟨.int .u64 (m.fdiv 2),?_,congrArg (Value.int .u64) (Int.fdiv_eq_ediv_of_nonneg m (by omega))⟩
  simp only [execOp,ho,h1,h2]
  simp [eqGuard,binOp,Op.shift,IntKind.bits]
end
section
variable {P:Program} {L:Lg P} {n:Fm} {fz:Nat} {E:Env} {M0:Av} {w0:World} {S:Nat→Prop} {o:Oper}
def ZV (new:Bool) (b:Nat) (T:TypeId) (off:Nat) (p:Pr) (ps:Value→List Pr) (u:Value):BS:=match u with
 | .tuple t=>AA new b T ((ps (t.getD 0 undef)).take off++[Ay (t.getD 1 undef) p]++(ps (t.getD 0 undef)).drop (off+1))
 |_=>Bw
theorem Ko {t:TypeId} {x:Operand} {q0 q:Tmp} {j:Nat} {new:Bool} {b off:Nat} {T:TypeId} {ps:Value→List Pr} {p:Pr} [One p] (hg:o.guard=none) (hd:o.dst=none) (ho:o.op= .store t x (.tmp q)) (hx:VL E x (ptr b off)) (hy:E.lookup q=some p)
  (hz:Aw P t=some 1) (hl:∀v,off+1≤(ps v).length):E6 P M0 w0 S n j ⟨.one q0,fun v=>AA new b T (ps v)⟩ ⟨.two q0 q,ZV new b T off p ps⟩ o E any:=by
 refine ⟨hg,fun M w a rs hsz he hI hj=> ?_⟩
 have hj':rs[j]? =some (SR.at_ a (SR.c (AA new b T (ps (a.tmps.getD q0 undef))))):=hj
 obtain ⟨h1,h2⟩:=Cb (P:=P) (M0:=M0) (w0:=w0) (S:=S) (n:=n) (j:=j) (new:=new) (T:=T) (ps:=ps (a.tmps.getD q0 undef)) (b:=b) (off:=off) hg hd ho hx hy hz (hl _)
 have h3:=h2 M w a rs hsz he hI hj'
 revert h3
 generalize (execOp a.eval o).run P w=r
 have key:∀v,SR.at_ (a.put o.dst v) ⟨.one q,fun v=>AA new b T ((ps (a.tmps.getD q0 undef)).take off++[Ay v p]++(ps (a.tmps.getD q0 undef)).drop (off+1))⟩=SR.at_ (a.put o.dst v) ⟨.two q0 q,ZV new b T off p ps⟩:=fun v=>by rw [hd];rfl
 intro h3
 cases r with
 |halt x w'=>exact h3
 |ok x w'=>
  cases x
  case value v=>obtain ⟨M',g1,g2,g3⟩:=h3;exact ⟨M',g1,g2,by rw [←key];exact g3⟩
  case skip=>obtain ⟨M',g1,g2,g3⟩:=h3;exact ⟨M',g1,g2,by rw [←key];exact g3⟩
  case enter f args=>
   refine Calls.mono h3 ?_
   rintro e w'' ⟨v,M',g0,g1,g2,g3⟩
   exact ⟨v,M',g0,g1,g2,by rw [←key];exact g3⟩
  all_goals exact h3
theorem A9.WZ {Q:Exit→Act→World→Prop} {rs:List SR} (j1 j2 i s t:Nat) {f g:Value→BS} {new:Bool} {b off:Nat} {T:TypeId} {ps:Value→List Pr} {p q r:Pr} (h1:rs[j1]? =some ⟨.one s,f⟩) (h2:rs[j2]? =some ⟨.one t,g⟩) (h3:rs[i]? =some ⟨.two s t,ZV new b T off r ps⟩) (h12:j1≠j2) (HW:j1≠i) (h23:j2≠i) (hst:s≠t) (hs:E.lookup s=some p) (ht:E.lookup t=some q)
  (k:∀v u,A9 n M0 w0 S ((t,Ay u q)::(s,Ay v p)::E) (((rs.set j1 (SR.c (f v))).set j2 (SR.c (g u))).set i (SR.c (AA new b T ((ps v).take off++[Ay u r]++(ps v).drop (off+1))))) Q):A9 n M0 w0 S E rs Q:=by
 rintro a w ⟨M,g1,g2,g3,g4⟩
 refine k (a.tmps.getD s undef) (a.tmps.getD t undef) a w ⟨M,g1,g2,?_,?_⟩
 ·
  intro c z hz
  simp only [List.lookup] at hz
  by_cases hct:c=t
  · subst hct;simp only [beq_self_eq_true,Option.some.injEq] at hz;subst hz;exact ⟨rfl,g3 c q ht⟩
  ·
   rw [show (c==t)=false by simpa using hct] at hz
   by_cases hcs:c=s
   · subst hcs;simp only [beq_self_eq_true,Option.some.injEq] at hz;subst hz;exact ⟨rfl,g3 c p hs⟩
   · rw [show (c==s)=false by simpa using hcs] at hz;exact g3 c z hz
 ·
  have e1:=O_ h1 a
  have e2:=O_ (rs:=rs.set j1 (SR.c (f (a.tmps.getD s undef)))) (j:=j2) (s:=t) (f:=g) (by rw [List.getElem?_set,if_neg h12];exact h2) a
  have h3':((rs.set j1 (SR.c (f (a.tmps.getD s undef)))).set j2 (SR.c (g (a.tmps.getD t undef))))[i]? =some ⟨.two s t,ZV new b T off r ps⟩:=by
   rw [List.getElem?_set,if_neg h23,List.getElem?_set,if_neg HW];exact h3
  rw [List.map_set,e2,e1]
  have e3:(rs.map (·.at_ a)).set i (AA new b T ((ps (a.tmps.getD s undef)).take off++[Ay (a.tmps.getD t undef) r]++(ps (a.tmps.getD s undef)).drop (off+1)))=rs.map (·.at_ a):=by
   apply List.ext_getElem?
   intro m
   rw [List.getElem?_set]
   by_cases him:i=m
   ·
    subst him
    rw [if_pos rfl]
    split
    · rw [List.getElem?_map,h3];rfl
    ·
     rename_i hge
     rw [List.getElem?_eq_none (by omega)]
   · rw [if_neg him]
  exact (congrArg (fun l=>Bl M0 w0 S l M w) e3).mpr g4
end
section
variable {P:Program} {L:Lg P} {n:Fm} {fz:Nat} {E:Env} {M0:Av} {w0:World} {S:Nat→Prop} {rs:List BS} {ε:Type} {res:ε→List BS}
end
section
variable {P:Program} {L:Lg P} {n:Fm} {fz:Nat} {E:Env} {M0:Av} {w0:World} {S:Nat→Prop} {o:Oper}
end
end Cp
namespace Cp
open Go Go.RowKit
section
variable {P:Program} {L:Lg P} {I:Ci} {o:Oper} {E:Env}
theorem Uf {c y:Operand} {b d:Bool} (ho:o.op= .pick c (.const (.bool true)) y) (hc:VL E c (bool b)) (hy:VL E y (bool d)):Af P I o E (bool (b||d)):=by
 cases b with
 |true=>exact KV ho hc rfl (vl rfl)
 |false=>exact KW ho hc rfl hy
theorem SZ {c x:Operand} {b d:Bool} (ho:o.op= .pick c x (.const (.bool false))) (hc:VL E c (bool b)) (hx:VL E x (bool d)):Af P I o E (bool (b&&d)):=by
 cases b with
 |true=>exact KV ho hc rfl hx
 |false=>exact KW ho hc rfl (vl rfl)
end
section
variable {P:Program} {L:Lg P} {n:Fm} {fz:Nat} {E:Env} {M0:Av} {w0:World} {S:Nat→Prop} {rs:List BS} {o:Oper}
end
end Cp
