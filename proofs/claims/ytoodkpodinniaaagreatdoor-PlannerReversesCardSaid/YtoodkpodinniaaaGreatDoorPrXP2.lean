/-
  Part 2 of the texts that prove this claim, merged.
-/
import Derived.Laws.MakeOwn
import Derived.Test.YtoodkpodinniaaaGreatDoorProg
import Derived.KernelRfl
import Derived.Lib.ConvBytes
import Derived.Lib.Bytealg
import Derived.Laws.StructEq
import Derived.Laws.Externs
import Derived.Lib.AtoiErrMem
import Derived.Laws.IdiomRangeMap
import Derived.Sort.LotA
import Derived.Sort.LotB
import Derived.Sort.LotC
import Derived.Lib.AppendZeros
import Derived.Lib.AppendZerosOnto
import Derived.Test.YtoodkpodinniaaaGreatDoorPrXP1
set_option linter.all false
set_option maxRecDepth 40000
set_option maxHeartbeats 16000000
namespace Cp
open Go Go.RowKit Go.Great
variable {a:Act} {ops:Array Oper} {M:Av} {new:Bool} {l:List Int} {ps qs:List Pr} {b j m:Nat} {o:Oper} {x:Operand} {p q:Pr} {T t:TypeId} {v:Value} {w:World}
section
variable {P:Program} {L:Lg P} {n:Fm} {fz:Nat} {E:Env} {I:CU} {Q:Exit→Act→World→Prop}
theorem Tr.Nl {α0:Type} (K:Env) (hK:C4 E K) (F:α0→Env) (Ii:α0→CU) (C:α0→Prop) (μ:α0→Nat) {c:Code} (Kj:α0)  (h0:C Kj) (hs:C4 E (F Kj)) (hI:∀M w,I.h M w→(Ii Kj).h M w)
  (round:∀x0,C x0→Tr L n (F x0++K) (Ii x0) c (Exit.then (fun a w=>∃EN,(C EN∧μ EN<μ x0)∧St n (F EN++K) (Ii EN) a w) Q)):Tr L n E I (.loop c) Q:=
 Tr.NZ K hK (fun y:α0=>F y) (fun y=>Ii y) (fun y=>C y) (fun y=>μ y) Kj h0 hs hI fun y hy=>
  Tr.post (round y hy) fun e a w h=>by
   cases e<;>first|exact h|(obtain ⟨EN,h1,h2⟩:=h;exact ⟨EN,h1,h2⟩)
theorem Fin.Qg {α0:Type} {E1:α0→Env} {I1:α0→CU} {C:α0→Prop} (x0:α0)  (hC:C x0) (hs:C4 E (E1 x0)) (hI:∀M w,I.h M w→(I1 x0).h M w):
  Fin n E I (Exit.then (fun a w=>∃EN,C EN∧St n (E1 EN) (I1 EN) a w) Q) .normal:=fun _ _ hst=>⟨x0,hC,hst.sub hs hI⟩
theorem Tr.Kk {α0 α1:Type} (K:Env) (hK:C4 E K) (F:α0→α1→Env) (Ii:α0→α1→CU) (C:α0→α1→Prop) (μ:α0→α1→Nat) {c:Code} (Kj:α0) (Mj:α1)  (h0:C Kj Mj) (hs:C4 E (F Kj Mj)) (hI:∀M w,I.h M w→(Ii Kj Mj).h M w)
  (round:∀x0 x1,C x0 x1→Tr L n (F x0 x1++K) (Ii x0 x1) c (Exit.then (fun a w=>∃EN FU,(C EN FU∧μ EN FU<μ x0 x1)∧St n (F EN FU++K) (Ii EN FU) a w) Q)):Tr L n E I (.loop c) Q:=
 Tr.NZ K hK (fun y:α0×α1=>F y.1 y.2) (fun y=>Ii y.1 y.2) (fun y=>C y.1 y.2) (fun y=>μ y.1 y.2) (Kj,Mj) h0 hs hI fun y hy=>
  Tr.post (round y.1 y.2 hy) fun e a w h=>by
   cases e<;>first|exact h|(obtain ⟨EN,FU,h1,h2⟩:=h;exact ⟨(EN,FU),h1,h2⟩)
theorem Fin.Mk {α0 α1:Type} {E1:α0→α1→Env} {I1:α0→α1→CU} {C:α0→α1→Prop} (x0:α0) (x1:α1)  (hC:C x0 x1) (hs:C4 E (E1 x0 x1)) (hI:∀M w,I.h M w→(I1 x0 x1).h M w):
  Fin n E I (Exit.then (fun a w=>∃EN FU,C EN FU∧St n (E1 EN FU) (I1 EN FU) a w) Q) .normal:=fun _ _ hst=>⟨x0,x1,hC,hst.sub hs hI⟩
theorem Tr.Rv {α0 α1:Type} (K:Env) (hK:C4 E K) (F:α0→α1→Value→Env) (Ii:α0→α1→Value→CU) (C:α0→α1→Prop) (μ:α0→α1→Nat) {c:Code} (Kj:α0) (Mj:α1) (YO:Value) (h0:C Kj Mj) (hs:C4 E (F Kj Mj YO)) (hI:∀M w,I.h M w→(Ii Kj Mj YO).h M w)
  (round:∀x0 x1 v0,C x0 x1→Tr L n (F x0 x1 v0++K) (Ii x0 x1 v0) c (Exit.then (fun a w=>∃EN FU Nn,(C EN FU∧μ EN FU<μ x0 x1)∧St n (F EN FU Nn++K) (Ii EN FU Nn) a w) Q)):Tr L n E I (.loop c) Q:=
 Tr.NZ K hK (fun y:α0×α1×Value=>F y.1 y.2.1 y.2.2) (fun y=>Ii y.1 y.2.1 y.2.2) (fun y=>C y.1 y.2.1) (fun y=>μ y.1 y.2.1) (Kj,Mj,YO) h0 hs hI fun y hy=>
  Tr.post (round y.1 y.2.1 y.2.2 hy) fun e a w h=>by
   cases e<;>first|exact h|(obtain ⟨EN,FU,Nn,h1,h2⟩:=h;exact ⟨(EN,FU,Nn),h1,h2⟩)
theorem Fin.Db {α0 α1:Type} {E1:α0→α1→Value→Env} {I1:α0→α1→Value→CU} {C:α0→α1→Prop} (x0:α0) (x1:α1) (v0:Value) (hC:C x0 x1) (hs:C4 E (E1 x0 x1 v0)) (hI:∀M w,I.h M w→(I1 x0 x1 v0).h M w):
  Fin n E I (Exit.then (fun a w=>∃EN FU Nn,C EN FU∧St n (E1 EN FU Nn) (I1 EN FU Nn) a w) Q) .normal:=fun _ _ hst=>⟨x0,x1,v0,hC,hst.sub hs hI⟩
theorem Tr.Rw {α0 α1 α2:Type} (K:Env) (hK:C4 E K) (F:α0→α1→α2→Env) (Ii:α0→α1→α2→CU) (C:α0→α1→α2→Prop) (μ:α0→α1→α2→Nat) {c:Code} (Kj:α0) (Mj:α1) (VP:α2)  (h0:C Kj Mj VP) (hs:C4 E (F Kj Mj VP)) (hI:∀M w,I.h M w→(Ii Kj Mj VP).h M w)
  (round:∀x0 x1 x2,C x0 x1 x2→Tr L n (F x0 x1 x2++K) (Ii x0 x1 x2) c (Exit.then (fun a w=>∃EN FU JY,(C EN FU JY∧μ EN FU JY<μ x0 x1 x2)∧St n (F EN FU JY++K) (Ii EN FU JY) a w) Q)):Tr L n E I (.loop c) Q:=
 Tr.NZ K hK (fun y:α0×α1×α2=>F y.1 y.2.1 y.2.2) (fun y=>Ii y.1 y.2.1 y.2.2) (fun y=>C y.1 y.2.1 y.2.2) (fun y=>μ y.1 y.2.1 y.2.2) (Kj,Mj,VP) h0 hs hI fun y hy=>
  Tr.post (round y.1 y.2.1 y.2.2 hy) fun e a w h=>by
   cases e<;>first|exact h|(obtain ⟨EN,FU,JY,h1,h2⟩:=h;exact ⟨(EN,FU,JY),h1,h2⟩)
theorem Fin.Gd {α0 α1 α2:Type} {E1:α0→α1→α2→Env} {I1:α0→α1→α2→CU} {C:α0→α1→α2→Prop} (x0:α0) (x1:α1) (x2:α2)  (hC:C x0 x1 x2) (hs:C4 E (E1 x0 x1 x2)) (hI:∀M w,I.h M w→(I1 x0 x1 x2).h M w):
  Fin n E I (Exit.then (fun a w=>∃EN FU JY,C EN FU JY∧St n (E1 EN FU JY) (I1 EN FU JY) a w) Q) .normal:=fun _ _ hst=>⟨x0,x1,x2,hC,hst.sub hs hI⟩
theorem Tr.G6 {α0 α1 α2:Type} (K:Env) (hK:C4 E K) (F:α0→α1→α2→Value→Env) (Ii:α0→α1→α2→Value→CU) (C:α0→α1→α2→Prop) (μ:α0→α1→α2→Nat) {c:Code} (Kj:α0) (Mj:α1) (VP:α2) (YO:Value) (h0:C Kj Mj VP) (hs:C4 E (F Kj Mj VP YO)) (hI:∀M w,I.h M w→(Ii Kj Mj VP YO).h M w)
  (round:∀x0 x1 x2 v0,C x0 x1 x2→Tr L n (F x0 x1 x2 v0++K) (Ii x0 x1 x2 v0) c (Exit.then (fun a w=>∃EN FU JY Nn,(C EN FU JY∧μ EN FU JY<μ x0 x1 x2)∧St n (F EN FU JY Nn++K) (Ii EN FU JY Nn) a w) Q)):Tr L n E I (.loop c) Q:=
 Tr.NZ K hK (fun y:α0×α1×α2×Value=>F y.1 y.2.1 y.2.2.1 y.2.2.2) (fun y=>Ii y.1 y.2.1 y.2.2.1 y.2.2.2) (fun y=>C y.1 y.2.1 y.2.2.1) (fun y=>μ y.1 y.2.1 y.2.2.1) (Kj,Mj,VP,YO) h0 hs hI fun y hy=>
  Tr.post (round y.1 y.2.1 y.2.2.1 y.2.2.2 hy) fun e a w h=>by
   cases e<;>first|exact h|(obtain ⟨EN,FU,JY,Nn,h1,h2⟩:=h;exact ⟨(EN,FU,JY,Nn),h1,h2⟩)
theorem Fin.EU {α0 α1 α2:Type} {E1:α0→α1→α2→Value→Env} {I1:α0→α1→α2→Value→CU} {C:α0→α1→α2→Prop} (x0:α0) (x1:α1) (x2:α2) (v0:Value) (hC:C x0 x1 x2) (hs:C4 E (E1 x0 x1 x2 v0)) (hI:∀M w,I.h M w→(I1 x0 x1 x2 v0).h M w):
  Fin n E I (Exit.then (fun a w=>∃EN FU JY Nn,C EN FU JY∧St n (E1 EN FU JY Nn) (I1 EN FU JY Nn) a w) Q) .normal:=fun _ _ hst=>⟨x0,x1,x2,v0,hC,hst.sub hs hI⟩
theorem Tr.YP {α0 α1 α2 α3:Type} (K:Env) (hK:C4 E K) (F:α0→α1→α2→α3→Value→Env) (Ii:α0→α1→α2→α3→Value→CU) (C:α0→α1→α2→α3→Prop) (μ:α0→α1→α2→α3→Nat) {c:Code} (Kj:α0) (Mj:α1) (VP:α2) (x3s:α3) (YO:Value) (h0:C Kj Mj VP x3s) (hs:C4 E (F Kj Mj VP x3s YO)) (hI:∀M w,I.h M w→(Ii Kj Mj VP x3s YO).h M w)
  (round:∀x0 x1 x2 x3 v0,C x0 x1 x2 x3→Tr L n (F x0 x1 x2 x3 v0++K) (Ii x0 x1 x2 x3 v0) c (Exit.then (fun a w=>∃EN FU JY bA Nn,(C EN FU JY bA∧μ EN FU JY bA<μ x0 x1 x2 x3)∧St n (F EN FU JY bA Nn++K) (Ii EN FU JY bA Nn) a w) Q)):Tr L n E I (.loop c) Q:=
 Tr.NZ K hK (fun y:α0×α1×α2×α3×Value=>F y.1 y.2.1 y.2.2.1 y.2.2.2.1 y.2.2.2.2) (fun y=>Ii y.1 y.2.1 y.2.2.1 y.2.2.2.1 y.2.2.2.2) (fun y=>C y.1 y.2.1 y.2.2.1 y.2.2.2.1) (fun y=>μ y.1 y.2.1 y.2.2.1 y.2.2.2.1) (Kj,Mj,VP,x3s,YO) h0 hs hI fun y hy=>
  Tr.post (round y.1 y.2.1 y.2.2.1 y.2.2.2.1 y.2.2.2.2 hy) fun e a w h=>by
   cases e<;>first|exact h|(obtain ⟨EN,FU,JY,bA,Nn,h1,h2⟩:=h;exact ⟨(EN,FU,JY,bA,Nn),h1,h2⟩)
theorem Fin.bh {α0 α1 α2 α3:Type} {E1:α0→α1→α2→α3→Value→Env} {I1:α0→α1→α2→α3→Value→CU} {C:α0→α1→α2→α3→Prop} (x0:α0) (x1:α1) (x2:α2) (x3:α3) (v0:Value) (hC:C x0 x1 x2 x3) (hs:C4 E (E1 x0 x1 x2 x3 v0)) (hI:∀M w,I.h M w→(I1 x0 x1 x2 x3 v0).h M w):
  Fin n E I (Exit.then (fun a w=>∃EN FU JY bA Nn,C EN FU JY bA∧St n (E1 EN FU JY bA Nn) (I1 EN FU JY bA Nn) a w) Q) .normal:=fun _ _ hst=>⟨x0,x1,x2,x3,v0,hC,hst.sub hs hI⟩
end
structure DS where
 l:List Int
 at_:Nat
 h:at_≤l.length
 h2:l.length≤1000000000
def DS.val (s:DS) (n:Int):Int:=match s.l[s.at_]? with|some x=>x % n|none=>0
def DS.CN (s:DS):DS:=if h:s.at_<s.l.length then ⟨s.l,s.at_+1,h,s.h2⟩ else s
theorem DS.DG (s:DS) {n:Int} (hn:1≤n):0≤s.val n∧s.val n<n:=by
 unfold DS.val
 split
 · exact ⟨Int.emod_nonneg _ AA,Int.emod_lt_of_pos _ AA⟩
 · omega
theorem DS.bl {s:DS} (h:s.l.length≤s.at_) (n:Int):s.val n=0:=by
 unfold DS.val;rw [List.getElem?_eq_none h]
theorem DS.bn {s:DS} (h:s.l.length≤s.at_):s.CN=s:=by
 unfold DS.CN;rw [dif_neg AA]
theorem DS.iX {s:DS} {x:Int} (h:s.l[s.at_]? =some x) (n:Int):s.val n=x % n:=by
 unfold DS.val;rw [h]
theorem DS.iY {s:DS} (h:s.at_<s.l.length):s.CN=⟨s.l,s.at_+1,h,s.h2⟩:=by
 unfold DS.CN;rw [dif_pos h]
def LU (s:DS):List Pr:=[slice 1 (s.l.map fun n=>[int n]),int ((s.at_:Nat):Int)]
def Ry (T:TypeId) (b:Nat) (s:DS):A7:=AE true b T (LU s)
def Jp (T:TypeId) (b:Nat):A7:=Kh true b T (fun _:DS=>True) LU
def DS.of (s:DS) (l:List Int):Int:=(l[(s.val l.length).toNat]?).getD 0
theorem DS.Qh (s:DS) (h:l≠[]):s.of l∈l:=by
 have h0:1≤(l.length:Int):=by
  have:=List.length_pos_iff.2 h
  omega
 have:=s.DG h0
 unfold DS.of
 rw [List.getElem?_eq_getElem AA]
 exact List.getElem_mem _
section
variable {P:Program} {L:Lg P} {n:Fm} {fz:Nat} {E:Env} {M0:Av} {w0:World} {S:Nat→Prop} {rs:List A7}
theorem Tr.VQ {Q:Exit→Act→World→Prop} {c:Code} (i:Nat) (hi:rs[i]? =some (Jp T b)) (k:∀s,Tr L n E (Hp M0 w0 S (rs.set i (Ry T b s))) c Q):Tr L n E (Hp M0 w0 S rs) c Q:=
 Tr.nY i hi fun s _=>k s
theorem Fin.VQ {Q:Exit→Act→World→Prop} {e:Exit} (i:Nat) (hi:rs[i]? =some (Jp T b)) (k:∀s,Fin n E (Hp M0 w0 S (rs.set i (Ry T b s))) Q e):Fin n E (Hp M0 w0 S rs) Q e:=by
 rintro a w ⟨M,h1,h2,h3,h4⟩
 have h4:BG M0 w0 S rs M w:=h4
 obtain ⟨x,hx,hh⟩:=(h4.hold _ (List.mem_of_getElem? hi)).1
 exact k x a w ⟨M,h1,h2,h3,h4.C0 hi rfl rfl hh⟩
theorem Fin.Jq {Q:Exit→Act→World→Prop} {e:Exit} (i:Nat) (s:DS) (hi:rs[i]? =some (AE true b T ps)) (hp:ps=LU s) (k:Fin n E (Hp M0 w0 S (rs.set i (Jp T b))) Q e):Fin n E (Hp M0 w0 S rs) Q e:=
 Fin.LS i (fun _=>True) LU s trivial hi hp k
theorem Tr.Jq {Q:Exit→Act→World→Prop} {c:Code} (i:Nat) (s:DS) (hi:rs[i]? =some (AE true b T ps)) (hp:ps=LU s) (k:Tr L n E (Hp M0 w0 S (rs.set i (Jp T b))) c Q):Tr L n E (Hp M0 w0 S rs) c Q:=
 Tr.LS i (fun _=>True) LU s trivial hi hp k
theorem TO.VR {l:List Oper} {Q:Exit→Act→World→Prop} (s j:Nat) {f:Value→A7} (g:Nat→A7) (hs:E.lookup s=some (Ao v (Cp.ex fun b=>ptr b 0))) (hi:rs[j]? =some (f v)) (hf:∀b,f (.pointer (some ⟨b,0,none⟩))=g b) (k:∀b,TO P n ops l ((s,ptr b 0)::E) (Hp M0 w0 S (rs.set j (g b))) Q):TO P n ops l E (Hp M0 w0 S rs) Q:=by
 intro k0 hl a w hst
 obtain ⟨M,h1,h2,he,h4⟩:=hst
 obtain ⟨h5,b,h6⟩:=he s _ hs
 have hv:v= .pointer (some ⟨b,0,none⟩):=by rw [←h5];exact h6
 have hj:rs.set j (g b)=rs:=by
  have hjl:j<rs.length:=by rcases Nat.lt_or_ge j rs.length with h|h;exact h;rw [List.getElem?_eq_none h] at hi;cases hi
  rw [←hf b,←hv]
  rw [List.getElem?_eq_getElem hjl] at hi
  simp at hi
  rw [←hi,List.set_getElem_self]
 refine k b k0 hl a w ⟨M,h1,h2,?_,by rw [hj];exact h4⟩
 intro t q hq
 simp only [List.lookup] at hq
 by_cases ht:t=s
 · subst ht;simp at hq;subst hq;exact h6
 · exact LF
def Ie (r:ResultVar) (a:Act):Sem Value:=match r with| .tmp t=>pure (a.tmps.getD t undef)| .cell c t=>do loadVar t (←asAddr (a.tmps.getD c undef))
def AR (P:Program) (E:Env) (rs:List A7) (r:ResultVar) (p:Pr):Prop:=∀(M:Av) (w:World) (a:Act),FC M w E a→(∀q∈rs,q.h M w)→∃v,(Ie r a).run P w= .ok v w∧p.h M w v
theorem AR.tmp {t:Tmp} (h:E.lookup t=some q) (hl:Pr.le q p):AR P E rs (.tmp t) p:=fun _ _ _ he _=>⟨_,rfl,hl _ _ _ (he _ _ h)⟩
theorem AR.cell (i:Nat) {c:Tmp} (h:E.lookup c=some (ptr b 0)) (hi:rs[i]? =some (AE new b T ps)) (ht:Eb P t=true) (hz:Al P t=some m) (hm:ps.length=m) (hl:Pr.le (agg ps) p):AR P E rs (.cell c t) p:=by
 intro M w a he hr
 obtain ⟨v,h1,h2⟩:=YH ht hz hm (hr _ (List.mem_of_getElem? hi))
 refine ⟨v,?_,hl _ _ _ h2⟩
 have hc:a.tmps.getD c undef= .pointer (some ⟨b,0,none⟩):=he _ _ h
 unfold Ie
 simp only [hc,asAddr]
 simpa [Sem.run_bind] using h1
theorem HS (g:Func) (a:Act):results g a.tmps=(do let vs ←g.results.mapM (fun r=>Ie r a);pure (if h:vs.size=1 then vs[0] else .tuple vs)):=by
 have:(fun r:ResultVar=>Ie r a)=(fun| .tmp t=>pure (a.tmps.getD t undef)| .cell c t=>do loadVar t (←asAddr (a.tmps.getD c undef))):=by
  funext r;cases r<;>rfl
 rw [this];rfl
theorem results1 {g:Func} {r:ResultVar} (hr:g.results= #[r]) (h:(Ie r a).run P w= .ok v w):(results g a.tmps).run P w= .ok v w:=by
 rw [HS,hr];simp [Sem.run_bind,h]
theorem results2 {g:Func} {r r':ResultVar} {v':Value} (hr:g.results= #[r,r']) (h:(Ie r a).run P w= .ok v w) (h':(Ie r' a).run P w= .ok v' w):(results g a.tmps).run P w= .ok (.tuple #[v,v']) w:=by
 rw [HS,hr];simp [Sem.run_bind,h,h']
theorem results3 {g:Func} {r r' r'':ResultVar} {v' v'':Value} (hr:g.results= #[r,r',r'']) (h:(Ie r a).run P w= .ok v w) (h':(Ie r' a).run P w= .ok v' w) (h'':(Ie r'' a).run P w= .ok v'' w):(results g a.tmps).run P w= .ok (.tuple #[v,v',v'']) w:=by
 rw [HS,hr];simp [Sem.run_bind,h,h',h'']
theorem BG.Qi {M:Av} {w:World}:∀{pre:List A7},BG M0 w0 S (pre++rs) M w→BG M0 w0 S rs M w
 |[],h=>h
 |_::_,h=>BG.Qi h.G2
variable {g:Func} {M1:Av} {w1:World}
theorem Fin.CF {r:ResultVar} (hr:g.results= #[r]) (h:AR P E rs r q) (hl:Pr.le q p):Fin ⟨fz,[]⟩ E (Hp M0 w0 Lw rs) (bodyPost P g (Ob M0 w0 p)) .ret:=by
 rintro a w ⟨M,_,hd,he,hi⟩
 obtain ⟨v,hv,hp⟩:=h M w a he (fun q hq=>(hi.hold q hq).1)
 obtain ⟨h1,h2⟩:=Cd.F_ M0 w0 M w hi
 exact ⟨hd,v,results1 hr hv,_,rfl,p.st _ _ _ _ _ (Ext.less h1) (hl _ _ _ hp),h2⟩
theorem Fin.Cj {r r':ResultVar} {q':Pr} (hr:g.results= #[r,r']) (h:AR P E rs r q) (h':AR P E rs r' q') (hl:Pr.le (D_ [q,q']) p):Fin ⟨fz,[]⟩ E (Hp M0 w0 Lw rs) (bodyPost P g (Ob M0 w0 p)) .ret:=by
 rintro a w ⟨M,_,hd,he,hi⟩
 obtain ⟨v,hv,hp⟩:=h M w a he (fun q hq=>(hi.hold q hq).1)
 obtain ⟨v',nh,hp'⟩:=h' M w a he (fun q hq=>(hi.hold q hq).1)
 obtain ⟨h1,h2⟩:=Cd.F_ M0 w0 M w hi
 exact ⟨hd,_,results2 hr hv nh,_,rfl,p.st _ _ _ _ _ (Ext.less h1) (hl _ _ _ ⟨[_,_],rfl,hp,hp',trivial⟩),h2⟩
theorem Fin.EO {r r' r'':ResultVar} {q' nJ:Pr} (hr:g.results= #[r,r',r'']) (h:AR P E rs r q) (h':AR P E rs r' q') (h'':AR P E rs r'' nJ) (hl:Pr.le (D_ [q,q',nJ]) p):Fin ⟨fz,[]⟩ E (Hp M0 w0 Lw rs) (bodyPost P g (Ob M0 w0 p)) .ret:=by
 rintro a w ⟨M,_,hd,he,hi⟩
 obtain ⟨v,hv,hp⟩:=h M w a he (fun q hq=>(hi.hold q hq).1)
 obtain ⟨v',nh,hp'⟩:=h' M w a he (fun q hq=>(hi.hold q hq).1)
 obtain ⟨v'',uW,uX⟩:=h'' M w a he (fun q hq=>(hi.hold q hq).1)
 obtain ⟨h1,h2⟩:=Cd.F_ M0 w0 M w hi
 exact ⟨hd,_,results3 hr hv nh uW,_,rfl,p.st _ _ _ _ _ (Ext.less h1) (hl _ _ _ ⟨[_,_,_],rfl,hp,hp',uX,trivial⟩),h2⟩
theorem Fin.Ge (pre:List A7) {r:ResultVar} {R:A7} {R':Value→A7} (hr:g.results= #[r]) (h:AR P E (pre++R::As M1 w1::rs) r q) (hl:Pr.le q p) (hR:∀M w v,q.h M w v→R' v=R):
  Fin ⟨fz,[]⟩ E (Hp M0 w0 S (pre++R::As M1 w1::rs)) (bodyPost P g (Ni M0 w0 S rs M1 w1 p R')) .ret:=by
 rintro a w ⟨M,_,hd,he,hi⟩
 obtain ⟨v,hv,hp⟩:=h M w a he (fun q hq=>(hi.hold q hq).1)
 obtain ⟨h1,h2⟩:=bY (BG.Qi hi)
 exact ⟨hd,v,results1 hr hv,_,M,rfl,hl _ _ _ hp,h1,by rw [hR _ _ _ hp];exact h2⟩
theorem Fin.ni (pre:List A7) {r r':ResultVar} {R:A7} {q':Pr} (hr:g.results= #[r,r']) (h:AR P E (pre++R::As M1 w1::rs) r q) (h':AR P E (pre++R::As M1 w1::rs) r' q') (hl:Pr.le (D_ [q,q']) p):
  Fin ⟨fz,[]⟩ E (Hp M0 w0 S (pre++R::As M1 w1::rs)) (bodyPost P g (Ni M0 w0 S rs M1 w1 p (fun _=>R))) .ret:=by
 rintro a w ⟨M,_,hd,he,hi⟩
 obtain ⟨v,hv,hp⟩:=h M w a he (fun q hq=>(hi.hold q hq).1)
 obtain ⟨v',nh,hp'⟩:=h' M w a he (fun q hq=>(hi.hold q hq).1)
 obtain ⟨h1,h2⟩:=bY (BG.Qi hi)
 exact ⟨hd,_,results2 hr hv nh,_,M,rfl,hl _ _ _ ⟨[_,_],rfl,hp,hp',trivial⟩,h1,h2⟩
theorem FB {α:Type} {p:α→Pr} (x:α) (h:Pr.le q (p x)):Pr.le q (Cp.ex p):=fun M w v hv=>⟨x,h M w v hv⟩
theorem Ev {φ:Prop} (hφ:φ) (h:Pr.le q p):Pr.le q (fact φ p):=fun M w v hv=>⟨hφ,h M w v hv⟩
end
section
variable {P:Program} {L:Lg P} {n:Fm} {fz:Nat} {E:Env} {M0:Av} {w0:World} {S:Nat→Prop} {rs:List SR} {o:Oper}
theorem DT {q:Tmp} {off:Nat} [One p] (hg:o.guard=none) (hd:o.dst=none) (ho:o.op= .store t x (.tmp q)) (hx:VL E x (ptr b off)) (hy:E.lookup q=some p) (hz:Al P t=some 1) (hl:off+1≤ps.length):D6 P M0 w0 S n j (SR.c (AE new b T ps)) ⟨q,fun v=>AE new b T (ps.take off++[Ao v p]++ps.drop (off+1))⟩ o E any:=by
 refine ⟨hg,fun M w a rs hsz he hI hj=> ?_⟩
 have h1:a.eval x= .pointer (some ⟨b,off,none⟩):=hx.ev he At
 have hv:VL E (.tmp q) p:=⟨_,hy,Pr.le_refl _⟩
 have hp:=hv.ev he (show (Operand.tmp q)∈o.op.operands.toList by simp [ho,Op.operands])
 obtain ⟨h2,h3⟩:=(VL.le hv (AP p)).ev he (show (Operand.tmp q)∈o.op.operands.toList by simp [ho,Op.operands])
 obtain ⟨⟨_,cs,h4,h5,h6⟩,_⟩:=hI.hold _ (List.mem_of_getElem? hj)
 have a_:=h5.length
 have gA:=h2.length
 have hone:(a.eval (.tmp q)).cells= #[a.eval (.tmp q)]:=(One.one (p:=p) M w _ hp).1
 have h2':HL M w [Ao (a.eval (.tmp q)) p] (a.eval (.tmp q)).cells.toList:=by rw [hone];exact ⟨⟨rfl,hp⟩,trivial⟩
 have hcells:(a.eval (.tmp q)).cells.size=1:=by rw [hone];rfl
 have hrun:(storeCells ⟨b,off,none⟩ (a.eval (.tmp q)).cells.toList 0).run P w= .ok () (w.setRow b (cs.take off++(a.eval (.tmp q)).cells.toList++cs.drop (off+1)).toArray):=by
  have:=run_storeCells_at (P:=P) b off T (a.eval (.tmp q)).cells.toList 0 cs.toArray w h4 (by simp [hcells];omega) h3
  simpa [hcells] using this
 have C9:(execOp a.eval o).run P w= .ok .skip (w.setRow b (cs.take off++(a.eval (.tmp q)).cells.toList++cs.drop (off+1)).toArray):=by
  simp [execOp,ho,h1,Instr.storeAt,Instr.sureAddr,storeVar,Bg hz,hcells,hrun]
 rw [C9]
 obtain ⟨h7, h8⟩ := BG.write (qs := ps.take off ++ [Ao (a.eval (.tmp q)) p] ++ ps.drop (off + 1)) (cs := cs.take off ++ (a.eval (.tmp q)).cells.toList ++ cs.drop (off + 1)) hI hj ((((h5.take off).app h2')).app (h5.drop (off + 1)))
  (fun c hc=>by
   simp only [List.mem_append] at hc
   rcases hc with (hc|hc)|hc
   · grind
   · exact h3 c hc
   · exact h6 c (List.mem_of_mem_drop hc))
 refine ⟨M,trivial,h8,?_⟩
 have hput:SR.at_ (a.put o.dst undef) ⟨q,fun v=>AE new b T (ps.take off++[Ao v p]++ps.drop (off+1))⟩=AE new b T (ps.take off++[Ao (a.eval (.tmp q)) p]++ps.drop (off+1)):=by rw [hd];rfl
 rw [hput];exact h7
theorem Qj {s:Nat} {f:Value→A7} (hR:rs[j]? =some ⟨s,f⟩) (a:Act):(rs.set j (SR.c (f (a.tmps.getD s undef)))).map (·.at_ a)=rs.map (·.at_ a):=by
 rw [List.map_set]
 apply List.ext_getElem?
 intro i
 rw [List.getElem?_set]
 by_cases hij:j=i
 ·
  subst hij
  rw [if_pos rfl]
  split
  · rw [List.getElem?_map,hR];rfl
  · grind
 · rw [if_neg hij]
theorem BV.Np {Q:Exit→Act→World→Prop} (j i s:Nat) {f g:Value→A7} (hR:rs[j]? =some ⟨s,f⟩) (hR':rs[i]? =some ⟨s,g⟩) (hij:j≠i) (hs:E.lookup s=some p) (k:∀v,BV n M0 w0 S ((s,Ao v p)::E) ((rs.set j (SR.c (f v))).set i (SR.c (g v))) Q):BV n M0 w0 S E rs Q:=by
 rintro a w ⟨M,h1,h2,h3,h4⟩
 refine k (a.tmps.getD s undef) a w ⟨M,h1,h2,?_,?_⟩
 ·
  intro t q hq
  simp only [List.lookup] at hq
  by_cases ht:t=s
  · exact U2
  · rw [show (t==s)=false by simpa using ht] at hq;exact h3 t q hq
 · rw [Qj (rs:=rs.set j (SR.c (f (a.tmps.getD s undef)))) (j:=i) (s:=s) (f:=g) (by rw [List.getElem?_set,if_neg hij];exact hR') a,Qj hR a];exact h4
end
section
variable {P:Program} {L:Lg P} {n:Fm} {fz:Nat} {E:Env} {M0:Av} {w0:World} {S:Nat→Prop} {rs:List A7}
theorem St.JU (j:Nat) (hi:rs[j]? =some (AE new b T ps)) (h:Mi ps qs) (hs:St n E (Hp M0 w0 S rs) a w):St n E (Hp M0 w0 S (rs.set j (AE new b T qs))) a w:=by
 obtain ⟨M,h1,h2,h3,h4⟩:=hs
 have h4:BG M0 w0 S rs M w:=h4
 obtain ⟨h5,cs,h6,h7,h8⟩:=(h4.hold _ (List.mem_of_getElem? hi)).1
 exact ⟨M,h1,h2,h3,h4.C0 hi rfl rfl ⟨h5,cs,h6,h.hl h7,h8⟩⟩
theorem Tr.JU {Q:Exit→Act→World→Prop} {c:Code} (j:Nat) (qs:List Pr) (hi:rs[j]? =some (AE new b T ps)) (h:Mi ps qs) (k:Tr L n E (Hp M0 w0 S (rs.set j (AE new b T qs))) c Q):Tr L n E (Hp M0 w0 S rs) c Q:=
 Tr.conv (fun _ _ hs=>hs.JU j hi h) k
theorem Fin.JU {Q:Exit→Act→World→Prop} {e:Exit} (j:Nat) (qs:List Pr) (hi:rs[j]? =some (AE new b T ps)) (h:Mi ps qs) (k:Fin n E (Hp M0 w0 S (rs.set j (AE new b T qs))) Q e):Fin n E (Hp M0 w0 S rs) Q e:=
 Fin.conv (fun _ _ hs=>hs.JU j hi h) k
end
section
variable {P:Program} {L:Lg P} {n:Fm} {fz:Nat} {E:Env} {M0:Av} {w0:World} {S:Nat→Prop} {rs:List A7}
theorem DA {I:CU} {e:TypeId} {y:Operand} {k:IntKind} {i:Int} {len cap sz off:Nat} (ho:o.op= .indexAddr t x y) (ht:P.underlying t=some (.slice e)) (hz:Al P e=some sz) (hx:VL E x (is (.slice (some ⟨b,off,none⟩) len cap))) (hy:VL E y (is (.int k i))) (h0:0≤i) (hl:i<len):Ab P I o E (ptr b (off+i.toNat*sz)):=
 Ab.same fun M w a he _=>by
  have h1:a.eval x=_:=hx.ev he At
  have h5:a.eval y= .int k i:=hy.ev he At
  refine ⟨_,?_,rfl⟩
  simp [execOp,ho,h1,h5,Instr.indexAt,asIntOf,run_underlying ht,Bg hz,h0,hl,Ce]
theorem Tr.perm {Q:Exit→Act→World→Prop} {c:Code} {rs':List A7} (hp:rs.Perm rs') (k:Tr L n E (Hp M0 w0 S rs') c Q):Tr L n E (Hp M0 w0 S rs) c Q:=
 Tr.conv (fun _ _ ⟨M,h1,h2,h3,h4⟩=>⟨M,h1,h2,h3,BG.perm hp h4⟩) k
theorem Fin.perm {Q:Exit→Act→World→Prop} {ex:Exit} {rs':List A7} (hp:rs.Perm rs') (k:Fin n E (Hp M0 w0 S rs') Q ex):Fin n E (Hp M0 w0 S rs) Q ex:=
 Fin.conv (fun _ _ ⟨M,h1,h2,h3,h4⟩=>⟨M,h1,h2,h3,BG.perm hp h4⟩) k
theorem BG.Qk (h4:BG M0 w0 S (AE true b T ps::rs) M w):∃M',BG M0 w0 S rs M' w∧Ext M w M' w∧Row M' w ⟨b,0,none⟩ 0 ps:=by
 obtain ⟨⟨hm,cs,hh,hc,hone⟩,f_⟩:=h4.hold _ (List.mem_cons_self ..)
 obtain ⟨hlt,hnew⟩:=f_ b rfl
 have hnew:w0.heap.size≤b:=by simpa [AE] using hnew
 have he:Ext M w (fun b' o=>M b' o∧b'≠b) w:=Ext.less fun _ _ h=>h.1
 obtain ⟨uY,uZ⟩:=List.pairwise_cons.1 h4.nd
 refine ⟨fun b' o=>M b' o∧b'≠b,⟨h4.m0,fun b' o' hm'=>⟨h4.m b' o' hm',fun e=> ?_⟩,h4.os,h4.tape,h4.output,h4.size,h4.block,fun b' o' hm'=>h4.bd b' o' hm'.1,fun r hr=> ?_,uZ⟩,he,fun j p hp=> ?_⟩
 ·
  subst e
  have:=h4.m0 _ _ hm'
  omega
 ·
  obtain ⟨h5,h6⟩:=h4.hold r (List.mem_cons_of_mem _ hr)
  exact ⟨r.st _ _ _ _ he (fun b' hb'=>⟨rfl,fun o' hmo=>⟨hmo,fun e=>uY r hr b rfl (by rw [←e];exact hb')⟩⟩) h5,h6⟩
 ·
  obtain ⟨u,hu,bQ⟩:=hc.at_ j p hp
  refine ⟨u,?_,fun hx=>hx.2 rfl,hone u (List.mem_of_getElem? hu),p.st _ _ _ _ _ he bQ⟩
  rw [show Addr.add ⟨b,0,none⟩ (0+j)=⟨b,j,none⟩ by unfold Addr.add;split<;>simp_all]
  simp [World.cell?,hh,hu]
end
end Cp
namespace Go.Proofs.YtoodkpodinniaaaGreatDoor
open Go Cp
theorem mixed:Tryz.prog.follows .mixedOrders=true:=by kernel_rfl
theorem sz1:Al Tryz.prog 1=some 1:=by kernel_rfl
theorem z1:BS Tryz.prog 1=some [.nilFunc]:=by kernel_rfl
theorem sz2:Al Tryz.prog 2=some 1:=by kernel_rfl
theorem z2:BS Tryz.prog 2=some [.int .i64 0]:=by kernel_rfl
theorem DC:Al Tryz.prog 3=some 1:=by kernel_rfl
theorem C1:DY Tryz.prog 3=true:=by kernel_rfl
theorem S9:CC Tryz.prog 3=some 8:=by kernel_rfl
theorem nj:([.int .i64 0]:List Value).all (·.oneCell')=true:=by kernel_rfl
theorem z3:BS Tryz.prog 3=some [.int .i64 0]:=by kernel_rfl
theorem sz4:Al Tryz.prog 4=some 1:=by kernel_rfl
theorem nk:DY Tryz.prog 4=true:=by kernel_rfl
theorem by4:CC Tryz.prog 4=some 1:=by kernel_rfl
theorem zo4:([.bool false]:List Value).all (·.oneCell')=true:=by kernel_rfl
theorem z4:BS Tryz.prog 4=some [.bool false]:=by kernel_rfl
theorem K7:Al Tryz.prog 5=some 1:=by kernel_rfl
theorem nq:DY Tryz.prog 5=true:=by kernel_rfl
theorem VS:CC Tryz.prog 5=some 1:=by kernel_rfl
theorem zo5:([.int .u8 0]:List Value).all (·.oneCell')=true:=by kernel_rfl
theorem z5:BS Tryz.prog 5=some [.int .u8 0]:=by kernel_rfl
theorem z6:BS Tryz.prog 6=some [.int .u8 0]:=by kernel_rfl
theorem LV:Al Tryz.prog 9=some 1:=by kernel_rfl
theorem Nq:DY Tryz.prog 9=true:=by kernel_rfl
theorem by9:CC Tryz.prog 9=some 16:=by kernel_rfl
theorem zo9:([.string (ByteArray.mk #[])]:List Value).all (·.oneCell')=true:=by kernel_rfl
theorem z9:BS Tryz.prog 9=some [.string (ByteArray.mk #[])]:=by kernel_rfl
theorem z12:BS Tryz.prog 12=some [.int .u64 0]:=by kernel_rfl
theorem z13:BS Tryz.prog 13=some [.string (ByteArray.mk #[]),.int .u64 0]:=by kernel_rfl
theorem z18:BS Tryz.prog 18=some [.pointer none]:=by kernel_rfl
theorem z20:BS Tryz.prog 20=some [.nilIface]:=by kernel_rfl
theorem Gs:Al Tryz.prog 22=some 1:=by kernel_rfl
theorem O5:DY Tryz.prog 22=true:=by kernel_rfl
theorem z22:BS Tryz.prog 22=some [.slice none 0 0]:=by kernel_rfl
theorem z24:BS Tryz.prog 24=some [.nilFunc]:=by kernel_rfl
theorem iZ:Al Tryz.prog 28=some 1:=by kernel_rfl
theorem Rz:DY Tryz.prog 28=true:=by kernel_rfl
theorem uc:Al Tryz.prog 29=some 1:=by kernel_rfl
theorem gH:DY Tryz.prog 29=true:=by kernel_rfl
theorem bp:Al Tryz.prog 30=some 1:=by kernel_rfl
theorem nr:DY Tryz.prog 30=true:=by kernel_rfl
theorem z31:BS Tryz.prog 31=some (List.replicate 3 (.slice none 0 0)):=by kernel_rfl
theorem DL:Al Tryz.prog 32=some 3:=by kernel_rfl
theorem DZ:Eb Tryz.prog 32=true:=by kernel_rfl
theorem ia:∀ps,Tryz.prog.built 32 ps=Instr.fill (fun i=>(#[(0,1),(1,1),(2,1)]:Array (Nat×Nat))[i]?) ((List.replicate 3 (.slice none 0 0)):List Value).toArray ps:=by intro ps;kernel_rfl
theorem F5:((List.replicate 3 (.slice none 0 0)):List Value).all (·.oneCell')=true:=by kernel_rfl
theorem z32:BS Tryz.prog 32=some (List.replicate 3 (.slice none 0 0)):=by kernel_rfl
theorem Jr:AZ Tryz.prog 32 0=some 0:=by kernel_rfl
theorem YQ:AZ Tryz.prog 32 1=some 1:=by kernel_rfl
theorem Nr:AZ Tryz.prog 32 2=some 2:=by kernel_rfl
theorem nu:DY Tryz.prog 36=true:=by kernel_rfl
theorem YR:Al Tryz.prog 38=some 1:=by kernel_rfl
theorem R3:Eb Tryz.prog 38=true:=by kernel_rfl
theorem Ts:([.slice none 0 0]:List Value).all (·.oneCell')=true:=by kernel_rfl
theorem z38:BS Tryz.prog 38=some [.slice none 0 0]:=by kernel_rfl
theorem ig:AZ Tryz.prog 38 0=some 0:=by kernel_rfl
theorem ud:Al Tryz.prog 39=some 1:=by kernel_rfl
theorem nv:DY Tryz.prog 39=true:=by kernel_rfl
theorem ue:([.int .i64 0]:List Value).all (·.oneCell')=true:=by kernel_rfl
theorem z39:BS Tryz.prog 39=some [.int .i64 0]:=by kernel_rfl
theorem gI:DY Tryz.prog 42=true:=by kernel_rfl
theorem gJ:DY Tryz.prog 43=true:=by kernel_rfl
theorem Ql:Al Tryz.prog 45=some 3:=by kernel_rfl
theorem O6:Eb Tryz.prog 45=true:=by kernel_rfl
theorem nw:∀ps,Tryz.prog.built 45 ps=Instr.fill (fun i=>(#[(0,1),(1,1),(2,1)]:Array (Nat×Nat))[i]?) ((List.replicate 3 (.slice none 0 0)):List Value).toArray ps:=by intro ps;kernel_rfl
theorem Ns:((List.replicate 3 (.slice none 0 0)):List Value).all (·.oneCell')=true:=by kernel_rfl
theorem bq:BS Tryz.prog 45=some (List.replicate 3 (.slice none 0 0)):=by kernel_rfl
theorem YS:AZ Tryz.prog 45 0=some 0:=by kernel_rfl
theorem YT:AZ Tryz.prog 45 1=some 1:=by kernel_rfl
theorem YU:AZ Tryz.prog 45 2=some 2:=by kernel_rfl
theorem z51:BS Tryz.prog 51=some [.int .i64 0,.slice none 0 0,.int .i64 0,.int .i64 0]:=by kernel_rfl
theorem Xc:BS Tryz.prog 54=some [.nilFunc]:=by kernel_rfl
theorem DH:Al Tryz.prog 62=some 2:=by kernel_rfl
theorem CG:Eb Tryz.prog 62=true:=by kernel_rfl
theorem ij:∀ps,Tryz.prog.built 62 ps=Instr.fill (fun i=>(#[(0,1),(1,1)]:Array (Nat×Nat))[i]?) ((List.replicate 2 (.int .i64 0)):List Value).toArray ps:=by intro ps;kernel_rfl
theorem Dm:((List.replicate 2 (.int .i64 0)):List Value).all (·.oneCell')=true:=by kernel_rfl
theorem JG:BS Tryz.prog 62=some (List.replicate 2 (.int .i64 0)):=by kernel_rfl
theorem iq:AZ Tryz.prog 62 0=some 0:=by kernel_rfl
theorem ir:AZ Tryz.prog 62 1=some 1:=by kernel_rfl
theorem nx:Al Tryz.prog 63=some 1:=by kernel_rfl
theorem ny:DY Tryz.prog 63=true:=by kernel_rfl
theorem Bl:Al Tryz.prog 65=some 4:=by kernel_rfl
theorem Fe:Eb Tryz.prog 65=true:=by kernel_rfl
theorem Og:CC Tryz.prog 65=some 48:=by kernel_rfl
theorem n5:∀ps,Tryz.prog.built 65 ps=Instr.fill (fun i=>(#[(0,2),(2,1),(3,1)]:Array (Nat×Nat))[i]?) ([.int .i64 0,.int .i64 0,.int .i64 0,.slice none 0 0]:List Value).toArray ps:=by intro ps;kernel_rfl
theorem Js:([.int .i64 0,.int .i64 0,.int .i64 0,.slice none 0 0]:List Value).all (·.oneCell')=true:=by kernel_rfl
theorem LW:BS Tryz.prog 65=some [.int .i64 0,.int .i64 0,.int .i64 0,.slice none 0 0]:=by kernel_rfl
theorem iw:AZ Tryz.prog 65 0=some 0:=by kernel_rfl
theorem iy:AZ Tryz.prog 65 1=some 2:=by kernel_rfl
theorem YV:AZ Tryz.prog 65 2=some 3:=by kernel_rfl
theorem B0:Al Tryz.prog 67=some 8:=by kernel_rfl
theorem CI:Eb Tryz.prog 67=true:=by kernel_rfl
theorem Tt:CC Tryz.prog 67=some 80:=by kernel_rfl
theorem Qm:∀ps,Tryz.prog.built 67 ps=Instr.fill (fun i=>(#[(0,1),(1,1),(2,1),(3,1),(4,4)]:Array (Nat×Nat))[i]?) ([.int .i64 0,.int .i64 0,.int .i64 0,.int .i64 0,.int .i64 0,.int .i64 0,.int .i64 0,.slice none 0 0]:List Value).toArray ps:=by intro ps;kernel_rfl
theorem F6:([.int .i64 0,.int .i64 0,.int .i64 0,.int .i64 0,.int .i64 0,.int .i64 0,.int .i64 0,.slice none 0 0]:List Value).all (·.oneCell')=true:=by kernel_rfl
theorem K8:BS Tryz.prog 67=some [.int .i64 0,.int .i64 0,.int .i64 0,.int .i64 0,.int .i64 0,.int .i64 0,.int .i64 0,.slice none 0 0]:=by kernel_rfl
theorem YW:AZ Tryz.prog 67 0=some 0:=by kernel_rfl
theorem GH:AZ Tryz.prog 67 1=some 1:=by kernel_rfl
theorem Jt:AZ Tryz.prog 67 2=some 2:=by kernel_rfl
theorem Ju:AZ Tryz.prog 67 3=some 3:=by kernel_rfl
theorem Qn:AZ Tryz.prog 67 4=some 4:=by kernel_rfl
theorem uf:∀ps,Tryz.prog.built 72 ps=Instr.fill (fun i=>(#[(0,1),(1,1)]:Array (Nat×Nat))[i]?) ([.slice none 0 0,.int .i64 0]:List Value).toArray ps:=by intro ps;kernel_rfl
theorem ug:([.slice none 0 0,.int .i64 0]:List Value).all (·.oneCell')=true:=by kernel_rfl
theorem iz:AZ Tryz.prog 72 0=some 0:=by kernel_rfl
theorem i6:AZ Tryz.prog 72 1=some 1:=by kernel_rfl
theorem n7:Al Tryz.prog 73=some 1:=by kernel_rfl
theorem n8:DY Tryz.prog 73=true:=by kernel_rfl
theorem uh:Al Tryz.prog 76=some 1:=by kernel_rfl
theorem gK:DY Tryz.prog 76=true:=by kernel_rfl
theorem uj:([.nilFunc]:List Value).all (·.oneCell')=true:=by kernel_rfl
theorem z76:BS Tryz.prog 76=some [.nilFunc]:=by kernel_rfl
theorem R4:Al Tryz.prog 77=some 1:=by kernel_rfl
theorem gL:DY Tryz.prog 77=true:=by kernel_rfl
theorem Ba:Al Tryz.prog 79=some 9:=by kernel_rfl
theorem Bv:Eb Tryz.prog 79=true:=by kernel_rfl
theorem bt:CC Tryz.prog 79=some 144:=by kernel_rfl
theorem bu:∀ps,Tryz.prog.built 79 ps=Instr.fill (fun i=>(#[(0,1),(1,1),(2,1),(3,1),(4,1),(5,1),(6,1),(7,1),(8,1)]:Array (Nat×Nat))[i]?) ([.string (ByteArray.mk #[]),.int .i64 0,.int .i64 0,.slice none 0 0,.bool false,.slice none 0 0,.slice none 0 0,.slice none 0 0,.bool false]:List Value).toArray ps:=by intro ps;kernel_rfl
theorem Dn:([.string (ByteArray.mk #[]),.int .i64 0,.int .i64 0,.slice none 0 0,.bool false,.slice none 0 0,.slice none 0 0,.slice none 0 0,.bool false]:List Value).all (·.oneCell')=true:=by kernel_rfl
theorem G7:BS Tryz.prog 79=some [.string (ByteArray.mk #[]),.int .i64 0,.int .i64 0,.slice none 0 0,.bool false,.slice none 0 0,.slice none 0 0,.slice none 0 0,.bool false]:=by kernel_rfl
theorem YX:AZ Tryz.prog 79 0=some 0:=by kernel_rfl
theorem i7:AZ Tryz.prog 79 1=some 1:=by kernel_rfl
theorem YY:AZ Tryz.prog 79 2=some 2:=by kernel_rfl
theorem Fu:AZ Tryz.prog 79 3=some 3:=by kernel_rfl
theorem i9:AZ Tryz.prog 79 4=some 4:=by kernel_rfl
theorem GI:AZ Tryz.prog 79 5=some 5:=by kernel_rfl
theorem Jv:AZ Tryz.prog 79 6=some 6:=by kernel_rfl
theorem Jw:AZ Tryz.prog 79 7=some 7:=by kernel_rfl
theorem i_:AZ Tryz.prog 79 8=some 8:=by kernel_rfl
theorem Ig:Al Tryz.prog 83=some 2:=by kernel_rfl
theorem VT:Eb Tryz.prog 83=true:=by kernel_rfl
theorem jA:CC Tryz.prog 83=some 16:=by kernel_rfl
theorem uk:∀ps,Tryz.prog.built 83 ps=Instr.fill (fun i=>(#[(0,1),(1,1)]:Array (Nat×Nat))[i]?) ((List.replicate 2 (.int .i64 0)):List Value).toArray ps:=by intro ps;kernel_rfl
theorem bw:((List.replicate 2 (.int .i64 0)):List Value).all (·.oneCell')=true:=by kernel_rfl
theorem lq:BS Tryz.prog 83=some (List.replicate 2 (.int .i64 0)):=by kernel_rfl
theorem jB:AZ Tryz.prog 83 0=some 0:=by kernel_rfl
theorem jC:AZ Tryz.prog 83 1=some 1:=by kernel_rfl
theorem jD:Al Tryz.prog 84=some 1:=by kernel_rfl
theorem n9:DY Tryz.prog 84=true:=by kernel_rfl
theorem GJ:Al Tryz.prog 86=some 5:=by kernel_rfl
theorem Nt:Eb Tryz.prog 86=true:=by kernel_rfl
theorem bz:CC Tryz.prog 86=some 64:=by kernel_rfl
theorem um:∀ps,Tryz.prog.built 86 ps=Instr.fill (fun i=>(#[(0,1),(1,1),(2,1),(3,1),(4,1)]:Array (Nat×Nat))[i]?) ([.string (ByteArray.mk #[]),.int .i64 0,.int .i64 0,.slice none 0 0,.int .i64 0]:List Value).toArray ps:=by intro ps;kernel_rfl
theorem WL:([.string (ByteArray.mk #[]),.int .i64 0,.int .i64 0,.slice none 0 0,.int .i64 0]:List Value).all (·.oneCell')=true:=by kernel_rfl
theorem YZ:BS Tryz.prog 86=some [.string (ByteArray.mk #[]),.int .i64 0,.int .i64 0,.slice none 0 0,.int .i64 0]:=by kernel_rfl
theorem jE:AZ Tryz.prog 86 0=some 0:=by kernel_rfl
theorem jF:AZ Tryz.prog 86 1=some 1:=by kernel_rfl
theorem jG:AZ Tryz.prog 86 2=some 2:=by kernel_rfl
theorem Qo:AZ Tryz.prog 86 3=some 3:=by kernel_rfl
theorem jH:AZ Tryz.prog 86 4=some 4:=by kernel_rfl
theorem n_:DY Tryz.prog 90=true:=by kernel_rfl
theorem jI:DY Tryz.prog 103=true:=by kernel_rfl
theorem oG:Al Tryz.prog 105=some 3:=by kernel_rfl
theorem jJ:Eb Tryz.prog 105=true:=by kernel_rfl
theorem oH:∀ps,Tryz.prog.built 105 ps=Instr.fill (fun i=>(#[(0,1),(1,1),(2,1)]:Array (Nat×Nat))[i]?) ((List.replicate 3 (.slice none 0 0)):List Value).toArray ps:=by intro ps;kernel_rfl
theorem oJ:((List.replicate 3 (.slice none 0 0)):List Value).all (·.oneCell')=true:=by kernel_rfl
theorem b_:AZ Tryz.prog 105 0=some 0:=by kernel_rfl
theorem VU:AZ Tryz.prog 105 1=some 1:=by kernel_rfl
theorem VV:AZ Tryz.prog 105 2=some 2:=by kernel_rfl
theorem jK:DY Tryz.prog 106=true:=by kernel_rfl
theorem jL:DY Tryz.prog 107=true:=by kernel_rfl
theorem oK:Al Tryz.prog 109=some 2:=by kernel_rfl
theorem jM:Eb Tryz.prog 109=true:=by kernel_rfl
theorem oQ:∀ps,Tryz.prog.built 109 ps=Instr.fill (fun i=>(#[(0,1),(1,1)]:Array (Nat×Nat))[i]?) ((List.replicate 2 (.slice none 0 0)):List Value).toArray ps:=by intro ps;kernel_rfl
theorem oV:((List.replicate 2 (.slice none 0 0)):List Value).all (·.oneCell')=true:=by kernel_rfl
theorem cA:AZ Tryz.prog 109 0=some 0:=by kernel_rfl
theorem cB:AZ Tryz.prog 109 1=some 1:=by kernel_rfl
theorem oW:Al Tryz.prog 111=some 2:=by kernel_rfl
theorem jN:Eb Tryz.prog 111=true:=by kernel_rfl
theorem oX:∀ps,Tryz.prog.built 111 ps=Instr.fill (fun i=>(#[(0,1),(1,1)]:Array (Nat×Nat))[i]?) ([.slice none 0 0,.int .i64 0]:List Value).toArray ps:=by intro ps;kernel_rfl
theorem oY:([.slice none 0 0,.int .i64 0]:List Value).all (·.oneCell')=true:=by kernel_rfl
theorem oZ:Al Tryz.prog 127=some 2:=by kernel_rfl
theorem jO:Eb Tryz.prog 127=true:=by kernel_rfl
theorem oa:∀ps,Tryz.prog.built 127 ps=Instr.fill (fun i=>(#[(0,1),(1,1)]:Array (Nat×Nat))[i]?) ((List.replicate 2 (.int .i64 0)):List Value).toArray ps:=by intro ps;kernel_rfl
theorem og:((List.replicate 2 (.int .i64 0)):List Value).all (·.oneCell')=true:=by kernel_rfl
theorem cC:AZ Tryz.prog 127 0=some 0:=by kernel_rfl
theorem cE:AZ Tryz.prog 127 1=some 1:=by kernel_rfl
theorem Df:Al Tryz.prog 129=some 15:=by kernel_rfl
theorem HT:Eb Tryz.prog 129=true:=by kernel_rfl
theorem gM:CC Tryz.prog 129=some 152:=by kernel_rfl
theorem oh:∀ps,Tryz.prog.built 129 ps=Instr.fill (fun i=>(#[(0,1),(1,1),(2,1),(3,2),(5,1),(6,2),(8,1),(9,1),(10,1),(11,1),(12,1),(13,2)]:Array (Nat×Nat))[i]?) ([.int .i64 0,.string (ByteArray.mk #[]),.string (ByteArray.mk #[]),.int .i64 0,.int .i64 0,.int .i64 0,.int .i64 0,.int .i64 0,.int .i64 0,.int .i64 0,.bool false,.int .i64 0,.slice none 0 0,.int .i64 0,.int .i64 0]:List Value).toArray ps:=by intro ps;kernel_rfl
theorem L6:([.int .i64 0,.string (ByteArray.mk #[]),.string (ByteArray.mk #[]),.int .i64 0,.int .i64 0,.int .i64 0,.int .i64 0,.int .i64 0,.int .i64 0,.int .i64 0,.bool false,.int .i64 0,.slice none 0 0,.int .i64 0,.int .i64 0]:List Value).all (·.oneCell')=true:=by kernel_rfl
theorem Qp:BS Tryz.prog 129=some [.int .i64 0,.string (ByteArray.mk #[]),.string (ByteArray.mk #[]),.int .i64 0,.int .i64 0,.int .i64 0,.int .i64 0,.int .i64 0,.int .i64 0,.int .i64 0,.bool false,.int .i64 0,.slice none 0 0,.int .i64 0,.int .i64 0]:=by kernel_rfl
theorem cF:AZ Tryz.prog 129 0=some 0:=by kernel_rfl
theorem cH:AZ Tryz.prog 129 1=some 1:=by kernel_rfl
theorem cI:AZ Tryz.prog 129 2=some 2:=by kernel_rfl
theorem cJ:AZ Tryz.prog 129 3=some 3:=by kernel_rfl
theorem cL:AZ Tryz.prog 129 4=some 5:=by kernel_rfl
theorem cM:AZ Tryz.prog 129 5=some 6:=by kernel_rfl
theorem cN:AZ Tryz.prog 129 6=some 8:=by kernel_rfl
theorem cO:AZ Tryz.prog 129 7=some 9:=by kernel_rfl
theorem cQ:AZ Tryz.prog 129 8=some 10:=by kernel_rfl
theorem cR:AZ Tryz.prog 129 9=some 11:=by kernel_rfl
theorem R5:AZ Tryz.prog 129 10=some 12:=by kernel_rfl
theorem Ya:AZ Tryz.prog 129 11=some 13:=by kernel_rfl
theorem E3:Al Tryz.prog 134=some 3:=by kernel_rfl
theorem Tu:Eb Tryz.prog 134=true:=by kernel_rfl
theorem Yb:CC Tryz.prog 134=some 24:=by kernel_rfl
theorem om:∀ps,Tryz.prog.built 134 ps=Instr.fill (fun i=>(#[(0,2),(2,1)]:Array (Nat×Nat))[i]?) ((List.replicate 3 (.int .i64 0)):List Value).toArray ps:=by intro ps;kernel_rfl
theorem Yc:((List.replicate 3 (.int .i64 0)):List Value).all (·.oneCell')=true:=by kernel_rfl
theorem Yd:BS Tryz.prog 134=some (List.replicate 3 (.int .i64 0)):=by kernel_rfl
theorem cT:AZ Tryz.prog 134 0=some 0:=by kernel_rfl
theorem cU:AZ Tryz.prog 134 1=some 2:=by kernel_rfl
theorem jP:DY Tryz.prog 145=true:=by kernel_rfl
theorem oo:Al Tryz.prog 185=some 1:=by kernel_rfl
theorem jQ:DY Tryz.prog 185=true:=by kernel_rfl
theorem gN:Al Tryz.prog 225=some 2:=by kernel_rfl
theorem oq:((List.replicate 2 (.int .i64 0)):List Value).all (·.oneCell')=true:=by kernel_rfl
theorem uo:BS Tryz.prog 225=some (List.replicate 2 (.int .i64 0)):=by kernel_rfl
theorem ot:Al Tryz.prog 239=some 1:=by kernel_rfl
theorem jR:DY Tryz.prog 239=true:=by kernel_rfl
theorem ou:([.pointer none]:List Value).all (·.oneCell')=true:=by kernel_rfl
theorem uq:BS Tryz.prog 239=some [.pointer none]:=by kernel_rfl
theorem gO:Al Tryz.prog 243=some 1:=by kernel_rfl
theorem jS:DY Tryz.prog 243=true:=by kernel_rfl
theorem gP:CC Tryz.prog 243=some 4:=by kernel_rfl
theorem ow:BS Tryz.prog 243=some [.int .u32 0]:=by kernel_rfl
theorem GK:Al Tryz.prog 248=some 12:=by kernel_rfl
theorem Ih:Eb Tryz.prog 248=true:=by kernel_rfl
theorem Ye:∀ps,Tryz.prog.built 248 ps=Instr.fill (fun i=>(#[(0,1),(1,1),(2,2),(4,2),(6,2),(8,2),(10,1),(11,1)]:Array (Nat×Nat))[i]?) ([.int .i64 0,.string (ByteArray.mk #[]),.int .i64 0,.int .i64 0,.int .i64 0,.int .i64 0,.int .i64 0,.int .i64 0,.int .i64 0,.int .i64 0,.int .i64 0,.int .i64 0]:List Value).toArray ps:=by intro ps;kernel_rfl
theorem L7:([.int .i64 0,.string (ByteArray.mk #[]),.int .i64 0,.int .i64 0,.int .i64 0,.int .i64 0,.int .i64 0,.int .i64 0,.int .i64 0,.int .i64 0,.int .i64 0,.int .i64 0]:List Value).all (·.oneCell')=true:=by kernel_rfl
theorem Tv:BS Tryz.prog 248=some [.int .i64 0,.string (ByteArray.mk #[]),.int .i64 0,.int .i64 0,.int .i64 0,.int .i64 0,.int .i64 0,.int .i64 0,.int .i64 0,.int .i64 0,.int .i64 0,.int .i64 0]:=by kernel_rfl
theorem cV:AZ Tryz.prog 248 0=some 0:=by kernel_rfl
theorem Jx:DY Tryz.prog 256=true:=by kernel_rfl
theorem Jy:DY Tryz.prog 257=true:=by kernel_rfl
theorem ox:∀ps,Tryz.prog.built 259 ps=Instr.fill (fun i=>(#[(0,1),(1,8),(9,8)]:Array (Nat×Nat))[i]?) ([.pointer none,.int .i64 0,.int .i64 0,.int .i64 0,.int .i64 0,.int .i64 0,.int .i64 0,.int .i64 0,.slice none 0 0,.int .i64 0,.int .i64 0,.int .i64 0,.int .i64 0,.int .i64 0,.int .i64 0,.int .i64 0,.slice none 0 0]:List Value).toArray ps:=by intro ps;kernel_rfl
theorem oy:([.pointer none,.int .i64 0,.int .i64 0,.int .i64 0,.int .i64 0,.int .i64 0,.int .i64 0,.int .i64 0,.slice none 0 0,.int .i64 0,.int .i64 0,.int .i64 0,.int .i64 0,.int .i64 0,.int .i64 0,.int .i64 0,.slice none 0 0]:List Value).all (·.oneCell')=true:=by kernel_rfl
theorem HU:AZ Tryz.prog 259 0=some 0:=by kernel_rfl
theorem DN:AZ Tryz.prog 259 1=some 1:=by kernel_rfl
theorem cW:AZ Tryz.prog 259 2=some 9:=by kernel_rfl
theorem JZ:Al Tryz.prog 260=some 1:=by kernel_rfl
theorem Gt:DY Tryz.prog 260=true:=by kernel_rfl
theorem gQ:Al Tryz.prog 261=some 13:=by kernel_rfl
theorem jT:Eb Tryz.prog 261=true:=by kernel_rfl
theorem oz:∀ps,Tryz.prog.built 261 ps=Instr.fill (fun i=>some (i*1,1)) ((List.replicate 13 (.nilFunc)):List Value).toArray ps:=by intro ps;kernel_rfl
theorem gR:((List.replicate 13 (.nilFunc)):List Value).all (·.oneCell')=true:=by kernel_rfl
theorem ur:BS Tryz.prog 261=some (List.replicate 13 (.nilFunc)):=by kernel_rfl
theorem o9:Al Tryz.prog 266=some 1:=by kernel_rfl
theorem Yf:DY Tryz.prog 266=true:=by kernel_rfl
theorem CR:Al Tryz.prog 268=some 4:=by kernel_rfl
theorem C2:Eb Tryz.prog 268=true:=by kernel_rfl
theorem gS:CC Tryz.prog 268=some 64:=by kernel_rfl
theorem Yg:∀ps,Tryz.prog.built 268 ps=Instr.fill (fun i=>(#[(0,1),(1,1),(2,1),(3,1)]:Array (Nat×Nat))[i]?) ([.int .i64 0,.slice none 0 0,.bool false,.slice none 0 0]:List Value).toArray ps:=by intro ps;kernel_rfl
theorem Ja:([.int .i64 0,.slice none 0 0,.bool false,.slice none 0 0]:List Value).all (·.oneCell')=true:=by kernel_rfl
theorem LX:BS Tryz.prog 268=some [.int .i64 0,.slice none 0 0,.bool false,.slice none 0 0]:=by kernel_rfl
theorem cX:AZ Tryz.prog 268 0=some 0:=by kernel_rfl
theorem cY:AZ Tryz.prog 268 1=some 1:=by kernel_rfl
theorem cZ:AZ Tryz.prog 268 2=some 2:=by kernel_rfl
theorem VW:AZ Tryz.prog 268 3=some 3:=by kernel_rfl
theorem jU:DY Tryz.prog 313=true:=by kernel_rfl
theorem o_:∀ps,Tryz.prog.built 315 ps=Instr.fill (fun i=>(#[(0,1),(1,1),(2,1)]:Array (Nat×Nat))[i]?) ([.int .i64 0,.slice none 0 0,.slice none 0 0]:List Value).toArray ps:=by intro ps;kernel_rfl
theorem pE:([.int .i64 0,.slice none 0 0,.slice none 0 0]:List Value).all (·.oneCell')=true:=by kernel_rfl
theorem cj:AZ Tryz.prog 315 1=some 1:=by kernel_rfl
theorem gT:Al Tryz.prog 322=some 2:=by kernel_rfl
theorem pF:∀ps,Tryz.prog.built 322 ps=Instr.fill (fun i=>(#[(0,1),(1,1)]:Array (Nat×Nat))[i]?) ([.string (ByteArray.mk #[]),.int .i64 0]:List Value).toArray ps:=by intro ps;kernel_rfl
theorem gU:([.string (ByteArray.mk #[]),.int .i64 0]:List Value).all (·.oneCell')=true:=by kernel_rfl
theorem uu:BS Tryz.prog 322=some [.string (ByteArray.mk #[]),.int .i64 0]:=by kernel_rfl
theorem ck:AZ Tryz.prog 322 1=some 1:=by kernel_rfl
theorem O7:Al Tryz.prog 354=some 5:=by kernel_rfl
theorem Qq:Eb Tryz.prog 354=true:=by kernel_rfl
theorem Dv:∀ps,Tryz.prog.built 354 ps=Instr.fill (fun i=>(#[(0,1),(1,1),(2,1),(3,1),(4,1)]:Array (Nat×Nat))[i]?) ([.string (ByteArray.mk #[]),.int .i64 0,.int .i64 0,.slice none 0 0,.slice none 0 0]:List Value).toArray ps:=by intro ps;kernel_rfl
theorem DU:([.string (ByteArray.mk #[]),.int .i64 0,.int .i64 0,.slice none 0 0,.slice none 0 0]:List Value).all (·.oneCell')=true:=by kernel_rfl
theorem jV:BS Tryz.prog 354=some [.string (ByteArray.mk #[]),.int .i64 0,.int .i64 0,.slice none 0 0,.slice none 0 0]:=by kernel_rfl
theorem cq:AZ Tryz.prog 354 1=some 1:=by kernel_rfl
theorem cr:AZ Tryz.prog 354 2=some 2:=by kernel_rfl
theorem cv:AZ Tryz.prog 354 3=some 3:=by kernel_rfl
theorem cw:AZ Tryz.prog 354 4=some 4:=by kernel_rfl
theorem gV:Al Tryz.prog 396=some 115:=by kernel_rfl
theorem jW:Eb Tryz.prog 396=true:=by kernel_rfl
theorem pG:∀ps,Tryz.prog.built 396 ps=Instr.fill (fun i=>some (i*5,5)) ([.string (ByteArray.mk #[]),.int .i64 0,.int .i64 0,.slice none 0 0,.slice none 0 0,.string (ByteArray.mk #[]),.int .i64 0,.int .i64 0,.slice none 0 0,.slice none 0 0,.string (ByteArray.mk #[]),.int .i64 0,.int .i64 0,.slice none 0 0,.slice none 0 0,.string (ByteArray.mk #[]),.int .i64 0,.int .i64 0,.slice none 0 0,.slice none 0 0,.string (ByteArray.mk #[]),.int .i64 0,.int .i64 0,.slice none 0 0,.slice none 0 0,.string (ByteArray.mk #[]),.int .i64 0,.int .i64 0,.slice none 0 0,.slice none 0 0,.string (ByteArray.mk #[]),.int .i64 0,.int .i64 0,.slice none 0 0,.slice none 0 0,.string (ByteArray.mk #[]),.int .i64 0,.int .i64 0,.slice none 0 0,.slice none 0 0,.string (ByteArray.mk #[]),.int .i64 0,.int .i64 0,.slice none 0 0,.slice none 0 0,.string (ByteArray.mk #[]),.int .i64 0,.int .i64 0,.slice none 0 0,.slice none 0 0,.string (ByteArray.mk #[]),.int .i64 0,.int .i64 0,.slice none 0 0,.slice none 0 0,.string (ByteArray.mk #[]),.int .i64 0,.int .i64 0,.slice none 0 0,.slice none 0 0,.string (ByteArray.mk #[]),.int .i64 0,.int .i64 0,.slice none 0 0,.slice none 0 0,.string (ByteArray.mk #[]),.int .i64 0,.int .i64 0,.slice none 0 0,.slice none 0 0,.string (ByteArray.mk #[]),.int .i64 0,.int .i64 0,.slice none 0 0,.slice none 0 0,.string (ByteArray.mk #[]),.int .i64 0,.int .i64 0,.slice none 0 0,.slice none 0 0,.string (ByteArray.mk #[]),.int .i64 0,.int .i64 0,.slice none 0 0,.slice none 0 0,.string (ByteArray.mk #[]),.int .i64 0,.int .i64 0,.slice none 0 0,.slice none 0 0,.string (ByteArray.mk #[]),.int .i64 0,.int .i64 0,.slice none 0 0,.slice none 0 0,.string (ByteArray.mk #[]),.int .i64 0,.int .i64 0,.slice none 0 0,.slice none 0 0,.string (ByteArray.mk #[]),.int .i64 0,.int .i64 0,.slice none 0 0,.slice none 0 0,.string (ByteArray.mk #[]),.int .i64 0,.int .i64 0,.slice none 0 0,.slice none 0 0,.string (ByteArray.mk #[]),.int .i64 0,.int .i64 0,.slice none 0 0,.slice none 0 0]:List Value).toArray ps:=by intro ps;kernel_rfl
theorem gW:([.string (ByteArray.mk #[]),.int .i64 0,.int .i64 0,.slice none 0 0,.slice none 0 0,.string (ByteArray.mk #[]),.int .i64 0,.int .i64 0,.slice none 0 0,.slice none 0 0,.string (ByteArray.mk #[]),.int .i64 0,.int .i64 0,.slice none 0 0,.slice none 0 0,.string (ByteArray.mk #[]),.int .i64 0,.int .i64 0,.slice none 0 0,.slice none 0 0,.string (ByteArray.mk #[]),.int .i64 0,.int .i64 0,.slice none 0 0,.slice none 0 0,.string (ByteArray.mk #[]),.int .i64 0,.int .i64 0,.slice none 0 0,.slice none 0 0,.string (ByteArray.mk #[]),.int .i64 0,.int .i64 0,.slice none 0 0,.slice none 0 0,.string (ByteArray.mk #[]),.int .i64 0,.int .i64 0,.slice none 0 0,.slice none 0 0,.string (ByteArray.mk #[]),.int .i64 0,.int .i64 0,.slice none 0 0,.slice none 0 0,.string (ByteArray.mk #[]),.int .i64 0,.int .i64 0,.slice none 0 0,.slice none 0 0,.string (ByteArray.mk #[]),.int .i64 0,.int .i64 0,.slice none 0 0,.slice none 0 0,.string (ByteArray.mk #[]),.int .i64 0,.int .i64 0,.slice none 0 0,.slice none 0 0,.string (ByteArray.mk #[]),.int .i64 0,.int .i64 0,.slice none 0 0,.slice none 0 0,.string (ByteArray.mk #[]),.int .i64 0,.int .i64 0,.slice none 0 0,.slice none 0 0,.string (ByteArray.mk #[]),.int .i64 0,.int .i64 0,.slice none 0 0,.slice none 0 0,.string (ByteArray.mk #[]),.int .i64 0,.int .i64 0,.slice none 0 0,.slice none 0 0,.string (ByteArray.mk #[]),.int .i64 0,.int .i64 0,.slice none 0 0,.slice none 0 0,.string (ByteArray.mk #[]),.int .i64 0,.int .i64 0,.slice none 0 0,.slice none 0 0,.string (ByteArray.mk #[]),.int .i64 0,.int .i64 0,.slice none 0 0,.slice none 0 0,.string (ByteArray.mk #[]),.int .i64 0,.int .i64 0,.slice none 0 0,.slice none 0 0,.string (ByteArray.mk #[]),.int .i64 0,.int .i64 0,.slice none 0 0,.slice none 0 0,.string (ByteArray.mk #[]),.int .i64 0,.int .i64 0,.slice none 0 0,.slice none 0 0,.string (ByteArray.mk #[]),.int .i64 0,.int .i64 0,.slice none 0 0,.slice none 0 0]:List Value).all (·.oneCell')=true:=by kernel_rfl
theorem uv:BS Tryz.prog 396=some [.string (ByteArray.mk #[]),.int .i64 0,.int .i64 0,.slice none 0 0,.slice none 0 0,.string (ByteArray.mk #[]),.int .i64 0,.int .i64 0,.slice none 0 0,.slice none 0 0,.string (ByteArray.mk #[]),.int .i64 0,.int .i64 0,.slice none 0 0,.slice none 0 0,.string (ByteArray.mk #[]),.int .i64 0,.int .i64 0,.slice none 0 0,.slice none 0 0,.string (ByteArray.mk #[]),.int .i64 0,.int .i64 0,.slice none 0 0,.slice none 0 0,.string (ByteArray.mk #[]),.int .i64 0,.int .i64 0,.slice none 0 0,.slice none 0 0,.string (ByteArray.mk #[]),.int .i64 0,.int .i64 0,.slice none 0 0,.slice none 0 0,.string (ByteArray.mk #[]),.int .i64 0,.int .i64 0,.slice none 0 0,.slice none 0 0,.string (ByteArray.mk #[]),.int .i64 0,.int .i64 0,.slice none 0 0,.slice none 0 0,.string (ByteArray.mk #[]),.int .i64 0,.int .i64 0,.slice none 0 0,.slice none 0 0,.string (ByteArray.mk #[]),.int .i64 0,.int .i64 0,.slice none 0 0,.slice none 0 0,.string (ByteArray.mk #[]),.int .i64 0,.int .i64 0,.slice none 0 0,.slice none 0 0,.string (ByteArray.mk #[]),.int .i64 0,.int .i64 0,.slice none 0 0,.slice none 0 0,.string (ByteArray.mk #[]),.int .i64 0,.int .i64 0,.slice none 0 0,.slice none 0 0,.string (ByteArray.mk #[]),.int .i64 0,.int .i64 0,.slice none 0 0,.slice none 0 0,.string (ByteArray.mk #[]),.int .i64 0,.int .i64 0,.slice none 0 0,.slice none 0 0,.string (ByteArray.mk #[]),.int .i64 0,.int .i64 0,.slice none 0 0,.slice none 0 0,.string (ByteArray.mk #[]),.int .i64 0,.int .i64 0,.slice none 0 0,.slice none 0 0,.string (ByteArray.mk #[]),.int .i64 0,.int .i64 0,.slice none 0 0,.slice none 0 0,.string (ByteArray.mk #[]),.int .i64 0,.int .i64 0,.slice none 0 0,.slice none 0 0,.string (ByteArray.mk #[]),.int .i64 0,.int .i64 0,.slice none 0 0,.slice none 0 0,.string (ByteArray.mk #[]),.int .i64 0,.int .i64 0,.slice none 0 0,.slice none 0 0,.string (ByteArray.mk #[]),.int .i64 0,.int .i64 0,.slice none 0 0,.slice none 0 0]:=by kernel_rfl
theorem gX:Al Tryz.prog 398=some 2:=by kernel_rfl
theorem jX:Eb Tryz.prog 398=true:=by kernel_rfl
theorem pH:∀ps,Tryz.prog.built 398 ps=Instr.fill (fun i=>some (i*1,1)) ((List.replicate 2 (.int .i64 0)):List Value).toArray ps:=by intro ps;kernel_rfl
theorem gY:((List.replicate 2 (.int .i64 0)):List Value).all (·.oneCell')=true:=by kernel_rfl
theorem uw:BS Tryz.prog 398=some (List.replicate 2 (.int .i64 0)):=by kernel_rfl
theorem pI:∀ps,Tryz.prog.built 399 ps=Instr.fill (fun i=>some (i*2,2)) ((List.replicate 10 (.int .i64 0)):List Value).toArray ps:=by intro ps;kernel_rfl
theorem pJ:((List.replicate 10 (.int .i64 0)):List Value).all (·.oneCell')=true:=by kernel_rfl
end Go.Proofs.YtoodkpodinniaaaGreatDoor
namespace Cp
open Go Go.RowKit Go.Great
variable {a:Act} {ops:Array Oper} {M:Av} {new:Bool} {f:FuncId} {rows:List (List Pr)} {r:List Oper} {ps qs:List Pr} {zs:List Value} {b cap d i j k m:Nat} {x:Operand} {p:Pr} {T t:TypeId} {v:Value} {w:World}
section
variable {P:Program} {L:Lg P} {n:Fm} {fz:Nat} {E:Env} {M0:Av} {w0:World} {S:Nat→Prop} {rs:List A7} {o:Oper}
def lens (m:Nat):Pr where
 h _ _ v:=∃a c,v= .slice a m c
 st _M _w _M' _w' _v _ h:=h
instance pK (m:Nat):One (lens m):=⟨by rintro M w v ⟨a,c,rfl⟩;exact ⟨rfl,rfl⟩⟩
def C3 (e:TypeId) (sz:Nat) (rows:List (List Pr)) (v:Value):A7 where
 blk:=match v with| .slice (some a) _ _=>some a.block|_=>none
 new:=true
 h M w:=∃(b cap:Nat) (spare:List Value),v= .slice (some ⟨b,0,none⟩) rows.length cap∧rows.length≤cap∧cap≤maxLen∧spare.length=(cap-rows.length)*sz∧(AE true b e (rows.flatten++spare.map is)).h M w
 st M w M' w' he hk h:=by
  obtain ⟨b,cap,spare,rfl,h1,h2,h3,h4⟩:=h
  exact ⟨b,cap,spare,rfl,h1,h2,h3,(AE true b e _).st _ _ _ _ he hk h4⟩
theorem HV {sz:Nat}:∀{rows:List (List Pr)} {i j:Nat} {row:List Pr},(∀r∈rows,r.length=sz)→rows[i]? =some row→j<sz→rows.flatten[i*sz+j]? =row[j]?
 |[],_,_,_,_,h,_=>by simp at h
 |a::l,0,j,row,hl,h,hj=>by
  simp at h;subst h
  have:=hl a Aa
  rw [List.flatten_cons,Nat.zero_mul,Nat.zero_add,List.getElem?_append_left AA]
 |a::l,i+1,j,row,hl,h,hj=>by
  have h1:=hl a Aa
  rw [List.flatten_cons,Nat.succ_mul,List.getElem?_append_right AA,h1,show i*sz+sz+j-sz=i*sz+j by omega]
  exact HV (fun r hr=>hl r (List.mem_cons_of_mem _ hr)) FF hj
theorem CV {sz:Nat}:∀{rows:List (List Pr)},(∀r∈rows,r.length=sz)→rows.flatten.length=rows.length*sz
 |[],_=>by simp
 |a::l,h=>by
  rw [List.flatten_cons,List.length_append,CV (fun r hr=>h r (List.mem_cons_of_mem _ hr)),h a Aa,List.length_cons,Nat.succ_mul];omega
theorem R6 {M:Av} {w:World}:∀{ps:List Pr} {vs:List Value},vs.length=ps.length→(∀(k:Nat) p,ps[k]? =some p→∃u,vs[k]? =some u∧p.h M w u)→HL M w ps vs
 |[],[],_,_=>trivial
 |[],_::_,h,_=>by simp at h
 |_::_,[],h,_=>by simp at h
 |p::ps,v::vs,h,hk=>by
  refine ⟨?_,R6 FF fun k q hq=>by simpa using hk (k+1) q (by simpa using hq)⟩
  obtain ⟨u,hu,hp⟩:=hk 0 p rfl
  simp at hu;subst hu;exact hp
theorem Flat.hl {sz:Nat} {news:List Value} (hsz:0<sz) (h:Flat M w sz rows news):HL M w rows.flatten news:=by
 have hl:∀r∈rows,r.length=sz:=fun r hr=>by obtain ⟨i,hi⟩:=List.mem_iff_getElem?.1 hr;exact (h.2.2 i r hi).1
 refine R6 (by rw [h.1,CV hl]) fun k p hk=> ?_
 have QZ:k<rows.length*sz:=by rw [←CV hl];rcases Nat.lt_or_ge k rows.flatten.length with h|h;exact h;rw [List.getElem?_eq_none h] at hk;cases hk
 have hi:k/sz<rows.length:=Nat.div_lt_of_lt_mul (by rw [Nat.mul_comm];exact QZ)
 have hj:k % sz<sz:=Nat.mod_lt _ hsz
 have he:k/sz*sz+k % sz=k:=by rw [Nat.mul_comm];exact Nat.div_add_mod k sz
 have hr:=List.getElem?_eq_getElem hi
 rw [←he,HV hl hr hj] at hk
 obtain ⟨u,hu,hp⟩:=(h.2.2 _ _ hr).2 _ p hk
 exact ⟨u,by rw [←he];exact hu,hp⟩
theorem HL.flat {sz:Nat} {cs:List Value} (hl:∀r∈rows,r.length=sz) (h:HL M w (rows.flatten++qs) cs) (h1:∀c∈cs,c.oneCell'=true):Flat M w sz rows (cs.take (rows.length*sz)):=by
 have hfl:=CV hl
 have hlen:=h.length
 refine ⟨by rw [List.length_take,hlen,List.length_append,hfl];omega,fun u hu=>h1 u (List.mem_of_mem_take hu),fun i row hi=> ?_⟩
 have hrl:=hl row (List.mem_of_getElem? hi)
 refine ⟨hrl,fun j p hp=> ?_⟩
 have hjl:j<sz:=by grind
 have FT:i<rows.length:=by grind
 have hlt:i*sz+j<rows.length*sz:=by have:(i+1)*sz≤rows.length*sz:=Nat.mul_le_mul_right sz FT;rw [Nat.add_mul] at this;omega
 obtain ⟨u,hu,hh⟩:=h.at_ (i*sz+j) p (by rw [List.getElem?_append_left (by rw [hfl];exact hlt),HV hl hi hjl];exact hp)
 exact ⟨u,by rw [List.getElem?_take,if_pos hlt];exact hu,hh⟩
theorem Dh {z:Array Value} (hz:z.toList=zs) (h1:zs.all (·.oneCell')=true):∀c∈(Builtin.zeroCells z k).toList,c.oneCell'=true:=by
 intro c hc
 simp only [Builtin.zeroCells,Array.toList_map,Array.toList_range,List.mem_map,List.mem_range] at hc
 obtain ⟨i,hi,rfl⟩:=hc
 have hpos:0<z.size:=by grind
 have hm:i % z.size<z.size:=Nat.mod_lt _ hpos
 rw [getElem!_pos z _ hm]
 exact List.all_eq_true.1 h1 _ (by rw [←hz];simp)
theorem cz {ty e:TypeId} {sz bytes:Nat} {u:Value} (ht:P.underlying t=some (.slice e)) (hz:Al P e=some sz) (hby:CC P e=some bytes) (DD:BS P e=some zs) (hzl:zs.length=sz) (hone:zs.all (·.oneCell')=true) (hsz:0<sz) (h:BG M0 w0 S rs M w) (hj:rs[j]? =some BW) (hu:(slice sz rows).h M w u) (hpos:0<rows.length) (FH:rows.length≤maxLen) (hfit:rows.length*bytes≤140737488355328):
  ∃v' w' M',(Builtin.append_ #[t,t] ty #[.slice none 0 0,u]).run P w= .ok v' w'∧(lens rows.length).h M' w' v'∧Ext M w M' w'∧BG M0 w0 S (rs.set j (C3 e sz rows v')) M' w':=by
 unfold Al at hz
 unfold CC at hby
 unfold BS at DD
 cases hi:P.info? e with
 |none=>rw [hi] at hz;cases hz
 |some i=>
  rw [hi] at hz hby DD
  simp only [Option.map_some,Option.some.injEq,Option.map_eq_some_iff] at hz hby DD
  obtain ⟨z,Re,DD⟩:=DD
  have Od:z.cells.size=sz:=by rw [←hzl,←DD];simp
  obtain ⟨A',c',rfl,bV,Qa,Xb,Ef⟩:=hu
  have IZ:(slice sz rows).h M w (.slice A' rows.length c'):=⟨A',c',rfl,bV,Qa,Xb,Ef⟩
  obtain ⟨LR,rfl⟩:∃LR,A'=some LR:=by
   obtain ⟨_,b,hb,_⟩:=Ef 0 _ (List.getElem?_eq_getElem hpos)
   exact ⟨b,hb⟩
  obtain ⟨news,hfl,hcell⟩:=Ee hsz IZ
  have hrun:=run_append_nil (P:=P) w t ty e i z ht hi Re LR rows.length c' news (by rw [hz];exact hfl.1) (fun k u hk=>(hcell k u hk).1) hpos MX (by rw [hby];omega)
  generalize hcap:grownCap w rows.length 0 e=cap at hrun
  have hge:rows.length≤cap:=by rw [←hcap];exact grownCap_ge _ _ _ _
  have hle:cap≤maxLen:=by rw [←hcap];exact grownCap_le_maxLen _ _ _ _ FH
  generalize Oe:Builtin.zeroCells z.cells (cap-rows.length)=zc at hrun
  have hzs:zc.size=(cap-rows.length)*sz:=by rw [←Oe,size_zeroCells,Od]
  have hzo:∀c∈zc.toList,c.oneCell'=true:=by rw [←Oe];exact Dh DD hone
  have hb:Below w.heap.size w (w.drew.alloc (.cells (news.toArray++zc) e)):=((Below.refl _ _).drew).alloc (Nat.le_refl _) _
  have h2:=Ext.below (M:=M) hb
  have EF:Ext M w (fun b o=>M b o∨b=w.heap.size) (w.drew.alloc (.cells (news.toArray++zc) e)):=by
   refine ⟨h2.size,fun a v hc hm=>⟨fun hx=> ?_,(h2.keep a v hc hm).2⟩,fun b o ho hp hm=>⟨fun hx=> ?_,(h2.obj b o ho hp hm).2⟩⟩
   ·
    rcases hx with hx|hx
    · exact hm hx
    · exact ES
   · grind
  have hs1:(w.drew.alloc (.cells (news.toArray++zc) e)).heap.size=w.heap.size+1:=by simp
  refine ⟨_,_,fun b o=>M b o∨b=w.heap.size,hrun,⟨_,_,rfl⟩,EF,?_⟩
  refine h.replace hj EF hb.os hb.tape hb.output (fun k hk _=>hb.block k hk) rfl (fun b o hm _=> .inl hm) (fun b o hx=> ?_) ?_ rfl (fun b hbk=> ?_)
  ·
   rcases hx with hx|hx
   · exact JA
   · omega
  ·
   refine ⟨w.heap.size,cap,zc.toList,rfl,hge,hle,by simpa using hzs,fun o=> .inr rfl,news++zc.toList,?_,?_,?_⟩
   ·
    have hh:(w.drew.alloc (.cells (news.toArray++zc) e)).heap[w.heap.size]? =some (.cells (news.toArray++zc) e (0,0)):=heap_alloc_new w.drew _
    rw [hh];simp
   · exact ((hfl.st EF).hl hsz).app (Lz _ _ _)
   ·
    intro c hc
    rcases List.mem_append.1 hc with hc|hc
    · exact hfl.2.1 c hc
    · exact hzo c hc
  ·
   have EE:some w.heap.size=some b:=hbk
   injection EE with e1
   subst e1
   exact ⟨by rw [hs1];omega,.inr (Nat.le_refl _)⟩
theorem St.Nu {e:TypeId} {sz:Nat} (j:Nat) (hj:rs[j]? =some (C3 e sz rows v)) (h:St n E (Hp M0 w0 S rs) a w):
  ∃(b cap:Nat) (spare:List Value),v= .slice (some ⟨b,0,none⟩) rows.length cap∧rows.length≤cap∧cap≤maxLen∧spare.length=(cap-rows.length)*sz∧St n E (Hp M0 w0 S (rs.set j (AE true b e (rows.flatten++spare.map is)))) a w:=by
 obtain ⟨M,h1,h2,h3,h4⟩:=h
 have h4:BG M0 w0 S rs M w:=h4
 obtain ⟨b,cap,spare,rfl,h5,h6,h7,h8⟩:=(h4.hold _ (List.mem_of_getElem? hj)).1
 exact ⟨b,cap,spare,rfl,h5,h6,h7,M,h1,h2,h3,h4.C0 hj rfl rfl h8⟩
theorem Tr.Nu {Q:Exit→Act→World→Prop} {c:Code} {e:TypeId} {sz:Nat} (j:Nat) (hj:rs[j]? =some (C3 e sz rows v)) (k:∀(b cap:Nat) (spare:List Value),v= .slice (some ⟨b,0,none⟩) rows.length cap→rows.length≤cap→cap≤maxLen→spare.length=(cap-rows.length)*sz→Tr L n E (Hp M0 w0 S (rs.set j (AE true b e (rows.flatten++spare.map is)))) c Q):Tr L n E (Hp M0 w0 S rs) c Q:=
 fun a w hs=>let ⟨b,cap,spare,h1,h2,h3,h4,h5⟩:=hs.Nu j hj;k b cap spare h1 h2 h3 h4 a w h5
theorem Fin.Nu {Q:Exit→Act→World→Prop} {ex:Exit} {e:TypeId} {sz:Nat} (j:Nat) (hj:rs[j]? =some (C3 e sz rows v)) (k:∀(b cap:Nat) (spare:List Value),v= .slice (some ⟨b,0,none⟩) rows.length cap→rows.length≤cap→cap≤maxLen→spare.length=(cap-rows.length)*sz→Fin n E (Hp M0 w0 S (rs.set j (AE true b e (rows.flatten++spare.map is)))) Q ex):Fin n E (Hp M0 w0 S rs) Q ex:=
 fun a w hs=>let ⟨b,cap,spare,h1,h2,h3,h4,h5⟩:=hs.Nu j hj;k b cap spare h1 h2 h3 h4 a w h5
theorem BG.bB {sz:Nat} {e:TypeId} (h:BG M0 w0 S rs M w) (hj:rs[j]? =some (AE true b e (rows.flatten++qs))) (hl:∀r∈rows,r.length=sz) (hc:rows.length≤cap) (hm:cap≤maxLen) (hq:qs.length=(cap-rows.length)*sz):
  ∃M',Ext M w M' w∧BG M0 w0 S (rs.set j (Bi e sz (.slice (some ⟨b,0,none⟩) rows.length cap))) M' w∧(slice sz rows).h M' w (.slice (some ⟨b,0,none⟩) rows.length cap):=by
 obtain ⟨⟨hM,cs,hh,hcs,hone⟩,f_⟩:=h.hold _ (List.mem_of_getElem? hj)
 have lu:=(f_ b rfl).1
 have hfl:=HL.flat hl hcs hone
 have hlen:=hcs.length
 rw [List.length_append,CV hl,hq,←Nat.add_mul,show rows.length+(cap-rows.length)=cap by omega] at hlen
 have he:Ext M w (fun b' o=>M b' o∧¬(b'=b∧o<rows.length*sz)) w:=Ext.less fun _ _ h=>h.1
 refine ⟨_,he,?_,EL (hfl.st he) hc hm fun k u hk=> ?_⟩
 ·
  refine h.replace hj he rfl rfl rfl (fun _ _ _=>rfl) rfl (fun b' o hm' hne=>⟨hm',fun hx=>hne (by rw [hx.1];rfl)⟩) (fun b' o hx=>h.bd _ _ hx.1) ?_ rfl (fun b' hbk=> ?_)
  ·
   intro a' n' c' hv hlt
   injection hv with e1 e2 e3
   injection e1 with e1
   subst e1;subst e2;subst e3
   refine ⟨⟨cs.take (rows.length*sz),hfl.1,.inr ⟨b,cap,cs.toArray,rfl,Nat.zero_le _,hh,hc,hm,by simpa using hlen,by simp⟩⟩,fun o ho=>⟨hM o,fun hx=>by omega⟩⟩
  ·
   have EE:DF (.slice (some ⟨b,0,none⟩) rows.length cap)=some b':=hbk
   simp only [DF] at EE
   split at EE
   · simp at EE;subst EE;exact ⟨lu,.inl rfl⟩
   · cases EE
 ·
  have QZ:k<rows.length*sz:=by rw [←hfl.1];rcases Nat.lt_or_ge k (cs.take (rows.length*sz)).length with h|h;exact h;rw [List.getElem?_eq_none h] at hk;cases hk
  rw [List.getElem?_take,if_pos QZ] at hk
  exact ⟨by simp [World.cell?,hh,hk],fun hx=>hx.2 ⟨rfl,QZ⟩⟩
end
abbrev str (l:List UInt8):Pr:=is (.string ⟨l.toArray⟩)
theorem Jz (l:List UInt8):(ByteArray.mk l.toArray).toList=l:=by rw [ByteArray.toList_eq]
theorem Nv (l:List UInt8):(ByteArray.mk l.toArray).size=l.length:=rfl
section
variable {P:Program} {L:Lg P} {E:Env} {I:CU} {o:Oper}
theorem jY {u:TypeId} {y:Operand} {a b:List UInt8} (ho:o.op= .binOp .eql t x y u) (hx:VL E x (str a)) (hy:VL E y (str b)):Ab P I o E (bool (decide (a=b))):=
 Ab.same fun M w ac he _=>by
  have h1:ac.eval x=_:=hx.ev he At
  have h2:ac.eval y=_:=hy.ev he At
  refine ⟨_,by simp [execOp,ho,h1,h2,eqGuard,binOp,Op.stringOp,Jz];rfl,?_⟩
  show Value.bool _=Value.bool _
  congr 1
  rw [Bool.eq_iff_iff];simp
theorem jZ {u:TypeId} {y:Operand} {a b:List UInt8} (ho:o.op= .binOp .neq t x y u) (hx:VL E x (str a)) (hy:VL E y (str b)):Ab P I o E (bool (!decide (a=b))):=
 Ab.same fun M w ac he _=>by
  have h1:ac.eval x=_:=hx.ev he At
  have h2:ac.eval y=_:=hy.ev he At
  refine ⟨_,by simp [execOp,ho,h1,h2,eqGuard,binOp,Op.stringOp,Jz];rfl,?_⟩
  show Value.bool _=Value.bool _
  congr 1
  rw [Bool.eq_iff_iff];simp
theorem R7:∀(a b:List UInt8),Op.bytesLess a b=decide (Lib.compareBytes a b= -1)
 |_,[]=>by cases ‹List UInt8›<;>simp [Op.bytesLess,Lib.compareBytes]
 |[],_::_=>by simp [Op.bytesLess,Lib.compareBytes]
 |a::x,b::y=>by
  rw [Op.bytesLess,R7 x y,Lib.compareBytes]
  by_cases h1:a<b
  · simp [h1]
  ·
   by_cases h2:b<a
   ·
    have h3:a≠b:=fun e=>by subst e;exact h1 h2
    simp [h1,h2,h3]
   ·
    have h3:a=b:=UInt8.le_antisymm (UInt8.not_lt.1 h2) (UInt8.not_lt.1 h1)
    simp [h1,h2,h3]
theorem J0 {u:TypeId} {y:Operand} {a b:List UInt8} (ho:o.op= .binOp .geq t x y u) (hx:VL E x (str a)) (hy:VL E y (str b)):Ab P I o E (bool (!decide (Lib.compareBytes a b= -1))):=
 Ab.same fun M w ac he _=>by
  have h1:ac.eval x=_:=hx.ev he At
  have h2:ac.eval y=_:=hy.ev he At
  exact ⟨_,by simp [execOp,ho,h1,h2,eqGuard,binOp,Op.stringOp,Jz,R7],rfl⟩
theorem c_ {a:List UInt8} (ho:o.op= .call { callee:= .builtin .len,args:= #[x],argTypes:= #[t] }) (ht:P.underlying t=some .string) (hx:VL E x (str a)):Ab P I o E (int ((a.length:Nat):Int)):=
 Ab.same fun M w ac he _=>by
  have h1:ac.eval x=_:=hx.ev he B2
  exact ⟨.int .i64 a.length,by simp [execOp,ho,resolve,invoke,builtin,Builtin.len_,h1,run_underlying ht,goInt,Nv],rfl⟩
theorem Ml {y:Operand} {k:IntKind} {a:List UInt8} {i:Int} {c:UInt8} (ho:o.op= .index t x y) (ht:P.underlying t=some .string) (hx:VL E x (str a)) (hy:VL E y (is (.int k i))) (h0:0≤i) (hc:a[i.toNat]? =some c):Ab P I o E (is (.int .u8 c.toNat)):=
 Ab.same fun M w ac he _=>by
  have h1:ac.eval x=_:=hx.ev he At
  have h2:ac.eval y=_:=hy.ev he At
  refine ⟨_,?_,rfl⟩
  have hlt:i.toNat<a.length:=by rcases Nat.lt_or_ge i.toNat a.length with h|h;exact h;rw [List.getElem?_eq_none h] at hc;cases hc
  have h3:(ByteArray.mk a.toArray)[i.toNat]? =some c:=by
   rw [getElem?_pos (ByteArray.mk a.toArray) i.toNat (by rw [Nv];exact hlt)]
   rw [List.getElem?_eq_getElem hlt] at hc
   simp only [Option.some.injEq] at hc
   rw [←hc]
   rfl
  simp [execOp,ho,h1,h2,Instr.index,asIntOf,run_underlying ht,h0,h3]
theorem Nw {s e:TypeId} {a:List UInt8} (ho:o.op= .convert s t x) (hs:P.underlying s=some .string) (ht:P.underlying t=some (.slice e)) (he:P.underlying e=some (.int .u8)) (hx:VL E x (str a)) (hm:a.length≤maxLen):Ab P I o E (slice 1 (a.map fun c=>[is (.int .u8 c.toNat)])):=
 Ab.val fun M w ac jc hI=>by
  have h1:ac.eval x=_:=hx.ev jc At
  have hrun:=Lib.run_convert_string_bytes (P:=P) w s t e ⟨a.toArray⟩ hs ht he
  have hcap:=grownCap_ge w a.length 0 e
  have hcm:=grownCap_le_maxLen w a.length 0 e hm
  refine ⟨.slice (some ⟨w.heap.size,0,none⟩) a.length (grownCap w a.length 0 e),Lib.bytesWorld w e ⟨a.toArray⟩,by simp [execOp,ho,h1,hrun];exact ⟨rfl,rfl⟩,?_,?_⟩
  ·
   have hbd:Bd M w:=I.bd _ _ hI
   refine ⟨_,grownCap w a.length 0 e,by rw [List.length_map],by rw [List.length_map];exact hcap,hcm,(fun h=>by cases h),fun i row hr=> ?_⟩
   rw [List.getElem?_map] at hr
   cases hc:a[i]? with
   |none=>rw [hc] at hr;cases hr
   |some c=>
    rw [hc] at hr
    simp only [Option.map_some,Option.some.injEq] at hr
    subst hr
    have FT:i<a.length:=by rcases Nat.lt_or_ge i a.length with h|h;exact h;rw [List.getElem?_eq_none h] at hc;cases hc
    refine ⟨rfl,_,rfl,fun j p hp=> ?_⟩
    have hj:j=0:=by
     rcases Nat.eq_zero_or_pos j with h|h
     · exact h
     · rw [List.getElem?_eq_none CK] at hp;cases hp
    subst hj
    simp only [List.getElem?_cons_zero,Option.some.injEq] at hp
    subst hp
    refine ⟨.int .u8 c.toNat,?_,fun gB=> ?_,rfl,rfl⟩
    ·
     rw [show Addr.add ⟨w.heap.size,0,none⟩ (i*1+0)=⟨w.heap.size,i,none⟩ by unfold Addr.add;split<;>simp_all]
     rw [Lib.bytesWorld_cell w e ⟨a.toArray⟩ i (by rw [Nv];exact FT)]
     have:([]++a).getD i 0=c:=by simp [hc]
     simp [hc]
    · have:=hbd _ _ gB;simp at this
  · exact Lib.bytesWorld_below w e ⟨a.toArray⟩
theorem Qr {a:List UInt8} {c:UInt8} (h:a[k]? =some c):a[((k:Nat):Int).toNat]? =some c:=h
theorem R8 {e:TypeId} {y:Operand} {k:IntKind} {i:Int} {len sz:Nat} (ho:o.op= .index t x y) (ht:P.underlying t=some (.array len e)) (he:Eb P e=true) (hz:Al P e=some sz) (hx:VL E x (agg ps)) (hy:VL E y (is (.int k i))) (h0:0≤i) (hl:i<len) (hq:(ps.drop (i.toNat*sz)).take sz=qs):Ab P I o E (agg qs):=
 Ab.same fun M w ac jc _=>by
  obtain ⟨cs,h1,ho1,h2⟩:=hx.ev jc At
  have h3:ac.eval y=_:=hy.ev jc At
  refine ⟨.agg (cs.toArray.extract (i.toNat*sz) (i.toNat*sz+sz)),?_,(cs.drop (i.toNat*sz)).take sz,?_,fun c hc=>ho1 c (List.mem_of_mem_drop (List.mem_of_mem_take hc)),by rw [←hq];exact (h2.drop _).take _⟩
  · simp [execOp,ho,h1,h3,Instr.index,asIntOf,run_underlying ht,h0,hl,Bg hz,part,Dg he]
  ·
   congr 1
   apply Array.toList_inj.1
   simp [List.extract,Nat.add_sub_cancel_left]
theorem Qs {xs:List Value} (h:(agg (xs.map is)).h M w v):v= .agg xs.toArray:=by
 obtain ⟨cs,rfl,ho,h2⟩:=h
 congr 1
 have:cs=xs:=by
  clear ho
  induction xs generalizing cs with
  |nil=>cases cs with
   |nil=>rfl
   |cons c cs=>exact h2.elim
  |cons x xs ih=>cases cs with
   |nil=>exact h2.elim
   |cons c cs=>rw [ih cs h2.2,show c=x from h2.1]
 rw [this]
theorem R9 {u:TypeId} {y:Operand} {r:Bool} (xs ys:List Value) (ho:o.op= .binOp .eql t x y u) (hx:VL E x (agg (xs.map is))) (hy:VL E y (agg (ys.map is))) (hg:P.eqGuardType P.depth t=false) (hr:∀w,(Op.equal t (.agg xs.toArray) (.agg ys.toArray)).run P w= .ok r w):Ab P I o E (bool r):=
 Ab.same fun M w ac he _=>by
  have h1:=Qs (hx.ev he At)
  have h2:=Qs (hy.ev he At)
  exact ⟨_,by simp [execOp,ho,h1,h2,eqGuard,hg,binOp,hr w],rfl⟩
theorem Kl {u:TypeId} {y:Operand} {r:Bool} (xs ys:List Value) (ho:o.op= .binOp .neq t x y u) (hx:VL E x (agg (xs.map is))) (hy:VL E y (agg (ys.map is))) (hg:P.eqGuardType P.depth t=false) (hr:∀w,(Op.equal t (.agg xs.toArray) (.agg ys.toArray)).run P w= .ok r w):Ab P I o E (bool (!r)):=
 Ab.same fun M w ac he _=>by
  have h1:=Qs (hx.ev he At)
  have h2:=Qs (hy.ev he At)
  exact ⟨_,by simp [execOp,ho,h1,h2,eqGuard,hg,binOp,hr w],rfl⟩
theorem eqS {P:Program} {fs:Array Field} {xs ys:Array Value} {r:Bool} (ht:P.underlying t=some (.struct fs)) (hp:P.stoodInHeld t=false) (h:(Op.eqFields d xs ys fs.toList).run P w= .ok r w):(Op.equalIn (d+1) t (.agg xs) (.agg ys)).run P w= .ok r w:=by
 have hf:P.fieldsOf t=fs:=by unfold Program.fieldsOf;rw [ht]
 rw [run_equalIn_struct w d t xs ys (by rw [hf];exact ht) hp,hf];exact h
theorem Mm {P:Program} {xs ys:Array Value}:(Op.eqFields d xs ys []).run P w= .ok true w:=by simp [Op.eqFields]
theorem Ff {P : Program} {xs ys : Array Value} {f : Field} {fs : List Field} {vx vy : Value} {r q : Bool} (hn : f.name ≠ "_") (ha : (part f.type xs f.offset).run P w = .ok vx w) (hb : (part f.type ys f.offset).run P w = .ok vy w) (he : (Op.equalIn d f.type vx vy).run P w = .ok r w) (hr : (Op.eqFields d xs ys fs).run P w = .ok q w) : (Op.eqFields d xs ys (f :: fs)).run P w = .ok (r && q) w := by
 simp only [Op.eqFields,hn,ne_eq,not_false_eq_true,if_true,Sem.run_bind,ha,hb,he,Result.andThen_ok]
 cases r
 · simp
 · simpa using hr
theorem Ck {P:Program} {cs:Array Value} {off:Nat} (h1:DY P t=true) (hv:cs[off]? =some v):(part t cs off).run P w= .ok v w:=by
 simp [part,EK h1,hv]
theorem R_ {P:Program} {cs:Array Value} {off:Nat} {vs:Array Value} (h1:Eb P t=true) (hz:Al P t=some m) (hv:cs.extract off (off+m)=vs):(part t cs off).run P w= .ok (.agg vs) w:=by
 simp [part,Dg h1,Bg hz,hv]
theorem HW {P:Program} {k:IntKind} {a b:Int} (h:P.underlying t=some (.int k)):(Op.equalIn (d+1) t (.int k a) (.int k b)).run P w= .ok (decide (a=b)) w:=by
 rw [run_equalIn_int w d t k k a b h];rfl
end
section
variable {P:Program} {L:Lg P} {E:Env} {I:CU} {o:Oper}
theorem Nx {sz:Nat} {A:Option Addr} {lo hi:Nat} (h:(slice sz rows).h M w (.slice A rows.length cap)) (h1:lo≤hi) (h2:hi≤rows.length):
  (slice sz ((rows.take hi).drop lo)).h M w (.slice (if cap=lo then A else A.map (·.add (lo*sz))) (hi-lo) (cap-lo)):=by
 obtain ⟨A',cap',hv,hc,hm,hA,hr⟩:=h
 injection hv with e1 _ e3
 subst e1;subst e3
 have hlen:((rows.take hi).drop lo).length=hi-lo:=by rw [List.length_drop,List.length_take];omega
 refine ⟨_,cap-lo,by rw [hlen],by rw [hlen];omega,by omega,fun h=> ?_,fun i row hi'=> ?_⟩
 ·
  split at h
  · have:=hA h;omega
  ·
   cases hA2:A with
   |none=>have:=hA hA2;omega
   |some a=>rw [hA2] at h;cases h
 ·
  rw [List.getElem?_drop,List.getElem?_take] at hi'
  split at hi'
  ·
   rename_i hlt
   obtain ⟨h3,ad,h4,h5⟩:=hr _ row hi'
   subst h4
   rw [if_neg AA]
   refine ⟨h3,_,rfl,fun j p hp=> ?_⟩
   obtain ⟨u,h6,h7,h8,h9⟩:=h5 j p hp
   refine ⟨u,?_,?_,h8,h9⟩
   · rw [add_add,show lo*sz+(i*sz+j)=(lo+i)*sz+j by rw [Nat.add_mul];omega];exact h6
   · rw [FI,JB,show ad.off+lo*sz+(i*sz+j)=ad.off+((lo+i)*sz+j) by rw [Nat.add_mul];omega];exact h7
  · cases hi'
theorem Eh {e:TypeId} {y:Operand} {k:IntKind} {h:Int} {sz:Nat} (ho:o.op= .slice t x none (some y) none) (ht:P.underlying t=some (.slice e)) (hz:Al P e=some sz) (hx:VL E x (slice sz rows)) (hy:VL E y (is (.int k h))) (h0:0≤h) (hl:h≤rows.length):
  Ab P I o E (slice sz (rows.take h.toNat)):=
 Ab.same fun M w a he _=>by
  have h1:=hx.ev he At
  have h3:a.eval y=_:=hy.ev he At
  obtain ⟨A,cap,hv,hc,hm,hA,hr⟩:=h1
  have h2:=Nx (lo:=0) (hi:=h.toNat) (show (slice sz rows).h M w (.slice A rows.length cap) from ⟨A,cap,rfl,hc,hm,hA,hr⟩) AA AA
  refine ⟨_,?_,by simpa using h2⟩
  have hb:h≤(cap:Int):=by omega
  simp [execOp,ho,hv,h3,Instr.sliceAt,Instr.slice,run_underlying ht,Instr.sliceBounds,Instr.sliceBound,asIntOf,h0,hb,Bg hz]
theorem DB {e:TypeId} {y:Operand} {k:IntKind} {l:Int} {sz:Nat} (ho:o.op= .slice t x (some y) none none) (ht:P.underlying t=some (.slice e)) (hz:Al P e=some sz) (hx:VL E x (slice sz rows)) (hy:VL E y (is (.int k l))) (h0:0≤l) (hl:l≤rows.length):
  Ab P I o E (slice sz (rows.drop l.toNat)):=
 Ab.same fun M w a he _=>by
  have h1:=hx.ev he At
  have h3:a.eval y=_:=hy.ev he At
  obtain ⟨A,cap,hv,hc,hm,hA,hr⟩:=h1
  have h2:=Nx (lo:=l.toNat) (hi:=rows.length) (show (slice sz rows).h M w (.slice A rows.length cap) from ⟨A,cap,rfl,hc,hm,hA,hr⟩) AA (Nat.le_refl _)
  rw [List.take_length] at h2
  refine ⟨_,?_,h2⟩
  simp [execOp,ho,hv,h3,Instr.sliceAt,Instr.slice,run_underlying ht,Instr.sliceBounds,Instr.sliceBound,asIntOf,h0,hl,Bg hz]
end
abbrev G8:Pr:=is (.tuple #[])
section
variable {P:Program} {L:Lg P} {n:Fm} {fz:Nat} {E:Env} {M0:Av} {w0:World} {S:Nat→Prop} {rs:List A7} {o:Oper} {g:Func} {M1:Av} {w1:World}
theorem results0 {g:Func} (hr:g.results= #[]):(results g a.tmps).run P w= .ok (.tuple #[]) w:=by
 rw [HS,hr];simp [Sem.run_bind]
theorem Fin.Yh (hr:g.results= #[]):Fin ⟨fz,[]⟩ E (Hp M0 w0 Lw rs) (bodyPost P g (Ob M0 w0 G8)) .normal:=by
 rintro a w ⟨M,_,hd,he,hi⟩
 obtain ⟨h1,h2⟩:=Cd.F_ M0 w0 M w hi
 exact ⟨hd,_,results0 hr,_,rfl,rfl,h2⟩
theorem Fin.pL (hr:g.results= #[]):Fin ⟨fz,[]⟩ E (Hp M0 w0 Lw rs) (bodyPost P g (Ob M0 w0 G8)) .ret:=by
 rintro a w ⟨M,_,hd,he,hi⟩
 obtain ⟨h1,h2⟩:=Cd.F_ M0 w0 M w hi
 exact ⟨hd,_,results0 hr,_,rfl,rfl,h2⟩
theorem Fin.pM {r:A7} (hr:g.results= #[]):Fin ⟨fz,[]⟩ E (Hp M0 w0 S (r::As M1 w1::rs)) (bodyPost P g (Ni M0 w0 S rs M1 w1 G8 (fun _=>r))) .normal:=by
 rintro a w ⟨M,_,hd,he,hi⟩
 obtain ⟨h1,h2⟩:=bY hi
 exact ⟨hd,_,results0 hr,_,M,rfl,rfl,h1,h2⟩
def VX (E:Env) (v0:Value) (q0:Pr):List Operand→List Pr→Prop
 |[],[]=>True
 |x::xs,p::ps=>(VL E x p∨(VL E x (is v0)∧Pr.le (Ao v0 q0) p))∧VX E v0 q0 xs ps
 |_,_=>False
theorem VX.ev {M M':Av} {w:World} {a:Act} {v0:Value} {q0:Pr} (he:Cq M w E o a) (hx:Ext M w M' w) (h0:q0.h M' w v0):∀{xs:List Operand} {ps:List Pr},(∀x∈xs,x∈o.op.operands.toList)→VX E v0 q0 xs ps→HL M' w ps (xs.map a.eval)
 |[],[],_,_=>trivial
 |[],_::_,_,h=>h.elim
 |_::_,[],_,h=>h.elim
 |x::xs,p::ps,hm,h=>by
  refine ⟨?_,VX.ev he hx h0 (fun y hy=>hm y (List.mem_cons_of_mem _ hy)) h.2⟩
  rcases h.1 with h1|⟨h1,h2⟩
  · exact p.st _ _ _ _ _ hx (h1.ev he (hm x Aa))
  ·
   have h3:a.eval x=v0:=h1.ev he (hm x Aa)
   exact h2 _ _ _ ⟨h3,by rw [h3];exact h0⟩
class Ij (p:Pr):Prop where
 free:∀M M' w v,p.h M w v→p.h M' w v
instance sS (u:Value):Ij (is u):=⟨fun _ _ _ _ h=>h⟩
instance lz (m:Nat):Ij (lens m):=⟨fun _ _ _ _ h=>h⟩
end
def S_ (es:List (Value×Value)):Array MapEntry:=(es.zipIdx.map fun p=>({ key:=p.1.1,val:=p.1.2,born:=p.2 }:MapEntry)).toArray
theorem Ny (es:List (Value×Value)) (i:Nat):(S_ es)[i]? =(es[i]?).map fun p=>{ key:=p.1,val:=p.2,born:=i }:=by
 simp [S_,List.getElem?_zipIdx]
 cases es[i]? <;>simp
structure ux (P:Program) (T kt et:TypeId) {κ:Type} [DecidableEq κ] (enc:κ→Value):Prop where
 und:P.underlying T=some (.map kt et)
 zero:∀w,(zeroValue et).run P w= .ok (.int .i64 0) w
 eq:∀a b w,(Op.equal kt (enc a) (enc b)).run P w= .ok (decide (a=b)) w
 chk:∀e a w,(Instr.checkKey e 10000 kt (enc a)).run P w= .ok () w
 xq:∃d,P.underlying kt=some d∧((∀a b,Instr.sameNow d (enc a) (enc b)=none)∨∀a b,Instr.sameNow d (enc a) (enc b)=some (decide (a=b)))
 bits:∀a,Instr.sameBits 10000 (enc a) (enc a)=true
section
variable {P:Program} {L:Lg P} {n:Fm} {fz:Nat} {E:Env} {M0:Av} {w0:World} {S:Nat→Prop} {rs:List A7} {o:Oper} {κ:Type} [DecidableEq κ] {enc:κ→Value}
abbrev Nz (enc:κ→Value) (es:List (κ×Int)):List (Value×Value):=es.map fun p=>(enc p.1,.int .i64 p.2)
def jd (enc:κ→Value) (b:Nat) (es:List (κ×Int)):A7 where
 blk:=some b
 new:=true
 h M w:=(∀o,M b o)∧w.heap[b]? =some (.map (S_ (Nz enc es)) es.length)
 st M w M' w' he hk h:=by
  obtain ⟨h1,h2⟩:=hk b rfl
  exact ⟨fun o=>h2 o (h.1 o),h1.trans h.2⟩
def look (es:List (κ×Int)) (k:κ):Option Int:=(es.find? fun p=>decide (k=p.1)).map (·.2)
theorem BG.uy {obj:Obj} {r:A7} (h:BG M0 w0 S rs M w) (hb:r.blk=some w.heap.size) (hn:r.new=true) (hr:r.h (fun b o=>M b o∨b=w.heap.size) (w.alloc obj)):
  BG M0 w0 S (r::rs) (fun b o=>M b o∨b=w.heap.size) (w.alloc obj)∧Ext M w (fun b o=>M b o∨b=w.heap.size) (w.alloc obj):=by
 have lu:Below w.heap.size w (w.alloc obj):=(Below.refl _ _).alloc (Nat.le_refl _) _
 have hsz:(w.alloc obj).heap.size=w.heap.size+1:=by simp
 have he:Ext M w (fun b o=>M b o∨b=w.heap.size) (w.alloc obj):=by
  have h2:=Ext.below (M:=M) lu
  refine ⟨h2.size,fun a v hc hm=>⟨fun hx=> ?_,(h2.keep a v hc hm).2⟩,fun b o ho hp hm=>⟨fun hx=> ?_,(h2.obj b o ho hp hm).2⟩⟩
  ·
   rcases hx with hx|hx
   · exact hm hx
   · exact ES
  · grind
 have hI:=(Hp M0 w0 S rs).st _ _ _ lu h
 refine ⟨⟨hI.m0,fun b o hm=> .inl (hI.m b o hm),hI.os,hI.tape,hI.output,hI.size,hI.block,fun b o hm=> ?_,fun r' hr'=> ?_,?_⟩,he⟩
 ·
  rcases hm with hm|hm
  · exact hI.bd b o hm
  · omega
 ·
  rcases List.mem_cons.1 hr' with rfl|hr'
  ·
   refine ⟨hr,fun b hbk=> ?_⟩
   rw [hb] at hbk
   injection hbk with hbk
   subst hbk
   exact ⟨by omega,by rw [hn];simpa using h.size⟩
  ·
   obtain ⟨h3,h4⟩:=h.hold r' hr'
   exact ⟨r'.st _ _ _ _ he (fun b hbk=>⟨lu.block b (h4 b hbk).1,fun _ x=> .inl x⟩) h3,fun b hbk=>⟨by have:=(h4 b hbk).1;omega,(h4 b hbk).2⟩⟩
 ·
  refine List.Pairwise.cons (fun r' hr' b hbk EE=> ?_) h.nd
  rw [hb] at hbk
  injection hbk with hbk
  have:=((h.hold r' hr').2 b EE).1
  omega
def Ep (w:World) (b:Nat) (o:Obj):World:={ w with heap:=w.heap.setIfInBounds b o }
theorem dA {o:Obj} (h:b<w.heap.size):(Ep w b o).heap[b]? =some o:=by
 show (w.heap.setIfInBounds b o)[b]? =_
 rw [Array.getElem?_setIfInBounds];simp [h]
theorem J1 {o:Obj} (h:k≠b):(Ep w b o).heap[k]? =w.heap[k]? :=by
 show (w.heap.setIfInBounds b o)[k]? =_
 rw [Array.getElem?_setIfInBounds,if_neg (fun e=>h e.symm)]
theorem BG.uz {obj:Obj} {r r':A7} (h:BG M0 w0 S rs M w) (hj:rs[j]? =some r) (hb:r.blk=some b) (hb':r'.blk=some b) (hn:r.new=true) (hn':r'.new=true) (hM:∀o,M b o) (hr:r'.h M (Ep w b obj)):
  BG M0 w0 S (rs.set j r') M (Ep w b obj)∧Ext M w M (Ep w b obj):=by
 have hlt:=((h.hold r (List.mem_of_getElem? hj)).2 b hb).1
 have hsz:(Ep w b obj).heap.size=w.heap.size:=by simp [Ep]
 have he:Ext M w M (Ep w b obj):=by
  refine ⟨by omega,fun a v hc hm=>⟨hm,?_⟩,fun k o ho hp hm=>⟨hm,?_⟩⟩
  · rw [World.cell?_of_block (w:=w) (J1 (fun e=>hm (by rw [e];exact hM _)))];exact hc
  · rw [J1 (fun e=>hm (by rw [e];exact hM _))];exact ho
 refine ⟨h.replace hj he rfl rfl rfl (fun k _ hk=>J1 (fun e=>hk (by rw [hb,e]))) hn (fun _ _ hm _=>hm) (fun k o hm=>by rw [hsz];exact h.bd k o hm) hr hn' (fun k hk=> ?_),he⟩
 rw [hb'] at hk
 injection hk with hk
 subst hk
 exact ⟨by omega,.inl hb⟩
variable {Q:Exit→Act→World→Prop} {ops:Array Oper} {r:List Oper}
def O8 (it b m:Nat) (seen:List Nat):A7 where
 blk:=some it
 new:=true
 h M w:=(∀o,M it o)∧w.heap[it]? =some (.mapIter (some b) m seen.toArray m)
 st M w M' w' he hk h:=by
  obtain ⟨h1,h2⟩:=hk it rfl
  exact ⟨fun o=>h2 o (h.1 o),h1.trans h.2⟩
theorem TO.range {kt et:TypeId} {es:List (κ×Int)} (hT:ux P T kt et enc) (hg:o.guard=none) (hd:o.dst=some d) (hn:d<n) (ho:o.op= .range T x) (hx:VL E x (is (.map (some b)))) (hj:rs[j]? =some (jd enc b es)) (k:∀it,TO P n ops r ((d,ptr it 0)::E) (Hp M0 w0 S (O8 it b es.length []::rs)) Q):TO P n ops (o::r) E (Hp M0 w0 S rs) Q:=
 TO.Xa hg fun K M w a hsz hdf he hI hK=>by
  have h1:a.eval x=_:=hx.ev (o:=o) (CW he) At
  obtain ⟨_,hh⟩:=(BG.hold hI _ (List.mem_of_getElem? hj)).1
  refine TO.val (v:= .pointer (some ⟨w.heap.size,0,none⟩)) (w':=w.alloc (.mapIter (some b) es.length #[] es.length)) ?_ ?_
  · simp [execOp,ho,h1,run_range_map w T kt et b _ _ hT.und hh]
  ·
   obtain ⟨h2,h3⟩:=BG.uy (obj:= .mapIter (some b) es.length #[] es.length) (r:=O8 w.heap.size b es.length []) hI rfl rfl ⟨fun _=> .inr rfl,by rw [heap_alloc_new]⟩
   refine hK _ _ _ _ (k w.heap.size) ⟨_,by rw [CB];exact hsz,by rw [put_defers];exact hdf,?_,h2⟩
   intro s p hp
   simp only [List.lookup] at hp
   by_cases hs:s=d
   · exact QA
   ·
    rw [show (s==d)=false by simpa using hs] at hp
    rw [hd,Bz hs]
    exact p.st _ _ _ _ _ h3 (he s p hp)
theorem mem_left {es:List (Value×Value)} {seen:List Nat} {e:MapEntry}:e∈(leftOf (S_ es) seen.toArray).toList↔∃q p,es[q]? =some p∧q∉seen∧e={ key:=p.1,val:=p.2,born:=q }:=by
 unfold leftOf
 rw [Array.toList_filter,List.mem_filter]
 constructor
 ·
  rintro ⟨h1,h2⟩
  obtain ⟨q,hq⟩:=List.mem_iff_getElem?.1 h1
  rw [Array.getElem?_toList,Ny] at hq
  cases hp:es[q]? with
  |none=>rw [hp] at hq;cases hq
  |some p=>
   rw [hp] at hq
   simp only [Option.map_some,Option.some.injEq] at hq
   subst hq
   exact ⟨q,p,hp,by simpa using h2,rfl⟩
 ·
  rintro ⟨q,p,hp,hq,rfl⟩
  exact ⟨List.mem_iff_getElem?.2 ⟨q,by rw [Array.getElem?_toList,Ny,hp];rfl⟩,by simpa using hq⟩
theorem Qt (ty:TypeId) {it:Nat} {seen:List Nat} {es:List (Value×Value)} (hm:es.length=m) (hit:w.heap[it]? =some (.mapIter (some b) m seen.toArray m)) (hb:w.heap[b]? =some (.map (S_ es) m)):
  ((∀q,q<m→q∈seen)∧(Instr.next (.pointer (some ⟨it,0,none⟩)) false ty).run P w= .ok (.tuple #[.bool false]) w)∨
  ∃q p,es[q]? =some p∧q∉seen∧∃w1,(w1=w∨w1=w.drew)∧(Instr.next (.pointer (some ⟨it,0,none⟩)) false ty).run P w= .ok (.tuple #[.bool true,p.1,p.2]) (Ep w1 it (.mapIter (some b) m (seen++[q]).toArray m)):=by
 have hold:∀x∈(S_ es).toList,x.born<m:=by
  intro x hx
  obtain ⟨q,hq⟩:=List.mem_iff_getElem?.1 hx
  rw [Array.getElem?_toList,Ny] at hq
  cases hp:es[q]? with
  |none=>rw [hp] at hq;cases hq
  |some p=>
   rw [hp] at hq
   simp only [Option.map_some,Option.some.injEq] at hq
   subst hq
   show q<m
   rcases Nat.lt_or_ge q es.length with h|h
   · omega
   · grind
 simp only [Instr.next,getObj,Sem.run_bind,Sem.run,hit,hb,Result.andThen,next_test_false seen.toArray (S_ es) m m hold (Nat.le_refl _),Bool.false_eq_true,if_false]
 have hleft:(S_ es).filter (fun e=> !seen.toArray.contains e.born)=leftOf (S_ es) seen.toArray:=rfl
 rw [hleft]
 have hmem:∀x∈(leftOf (S_ es) seen.toArray).toList,x.born<m:=fun x hx=>by grind
 have hml:∀e,e∈(leftOf (S_ es) seen.toArray).toList↔∃q p,es[q]? =some p∧q∉seen∧e={ key:=p.1,val:=p.2,born:=q }:=fun e=>mem_left
 generalize leftOf (S_ es) seen.toArray=L at hmem hml ⊢
 have e1:L.filter (fun x=>decide (x.born<m))=L:=Array.filter_eq_self.2 (fun x hx=>by simpa using hmem x F1)
 have e2:L.filter (fun x=>decide (x.born≥m))= #[]:=by
  rw [Array.filter_eq_empty_iff]
  intro x hx
  have:=hmem x F1
  simp
  omega
 simp only [e1,e2,Array.append_empty]
 by_cases h0:L.size=0
 ·
  left
  have hL:L= #[]:=Array.eq_empty_of_size_eq_zero h0
  refine ⟨fun q hq=> ?_,?_⟩
  ·
   rcases Classical.em (q∈seen) with h|h
   · exact h
   ·
    have:=(hml { key:=(es[q]'(by omega)).1,val:=(es[q]'(by omega)).2,born:=q }).2 ⟨q,es[q]'(by omega),List.getElem?_eq_getElem AA,h,rfl⟩
    rw [hL] at this;simp at this
  ·
   subst hL
   simp [choose,Sem.run,Question.forced]
 ·
  right
  have hne:L.isEmpty=false:=by simp [Array.isEmpty,h0]
  simp only [hne,Bool.false_eq_true,if_false,Array.empty_append,Array.size_map]
  have hch:∃(j:Nat) (w1:World),j<L.size∧(w1=w∨w1=w.drew)∧(choose (Question.mapNext L.size)).run P w= .ok j w1:=by
   by_cases hf:L.size≤1
   · exact ⟨0,w,by omega,.inl rfl,by simp [choose,Sem.run,Question.forced,hf]⟩
   ·
    exact ⟨_,w.drew,Nat.mod_lt _ AA,.inr rfl,by
     simp only [choose,Sem.run,Question.forced,decide_eq_true_eq,hf,if_false,Question.cut]
     rfl⟩
  obtain ⟨j,w1,hj,hal,hrun⟩:=hch
  obtain ⟨q,p,hq1,Rk,dB⟩:=(hml L[j]).1 Aa
  refine ⟨q,p,hq1,Rk,w1,hal,?_⟩
  have hw1:w1.heap=w.heap:=by rcases hal with rfl|rfl<;>rfl
  have JT:∀(o':Obj),(setObj it o').run P w1= .ok () (Ep w1 it o'):=fun o'=>by
   have u5:w1.heap[it]? =some (.mapIter (some b) m seen.toArray m):=by rw [hw1];exact hit
   simp only [setObj,Sem.run,u5]
   rfl
  simp only [hrun,Array.getElem?_map,Array.getElem?_eq_getElem hj,Option.map_some,Sem.run_bind,JT,Result.andThen]
  rw [dB]
  simp
omit [DecidableEq κ] in
theorem TO.next {it:Nat} {es:List (κ×Int)} {seen:List Nat} (hg:o.guard=none) (hd:o.dst=some d) (hn:d<n) (ho:o.op= .next x false) (hx:VL E x (ptr it 0)) (hi:rs[i]? =some (O8 it b es.length seen)) (hj:rs[j]? =some (jd enc b es)) (k1:(∀q,q<es.length→q∈seen)→TO P n ops r ((d,D_ [bool false])::E) (Hp M0 w0 S rs) Q) (k2:∀q p,es[q]? =some p→q∉seen→TO P n ops r ((d,D_ [bool true,is (enc p.1),int p.2])::E) (Hp M0 w0 S (rs.set i (O8 it b es.length (seen++[q])))) Q):TO P n ops (o::r) E (Hp M0 w0 S rs) Q:=
 TO.Xa hg fun K M w a hsz hdf he hI hK=>by
  have h1:a.eval x= .pointer (some ⟨it,0,none⟩):=hx.ev (o:=o) (CW he) At
  obtain ⟨⟨hMi,hit⟩,hbi⟩:=BG.hold hI _ (List.mem_of_getElem? hi)
  obtain ⟨_,hh⟩:=(BG.hold hI _ (List.mem_of_getElem? hj)).1
  have hlt:=(hbi it rfl).1
  rcases Qt (P:=P) o.type (es:=Nz enc es) (by simp [Nz]) hit hh with ⟨h2,h3⟩|⟨q,p,h2,h3,w1,h4,h5⟩
  ·
   refine TO.val (v:= .tuple #[.bool false]) (w':=w) ?_ ?_
   · simp [execOp,ho,h1,h3]
   ·
    refine hK _ _ _ _ (k1 h2) ⟨M,by rw [CB];exact hsz,by rw [put_defers];exact hdf,?_,hI⟩
    intro s p hp
    simp only [List.lookup] at hp
    by_cases hs:s=d
    · subst hs;simp at hp;subst hp;rw [hd,B_ Gm];exact ⟨_,rfl,rfl,trivial⟩
    ·
     rw [show (s==d)=false by simpa using hs] at hp
     rw [hd,Bz hs];exact he s p hp
  ·
   have hes:∃p',es[q]? =some p'∧p=(enc p'.1,.int .i64 p'.2):=by
    simp only [Nz,List.getElem?_map] at h2
    cases h:es[q]? with
    |none=>rw [h] at h2;cases h2
    |some p'=>rw [h] at h2;simp at h2;exact ⟨p',rfl,h2.symm⟩
   obtain ⟨p',hp',rfl⟩:=hes
   refine TO.val (v:= .tuple #[.bool true,enc p'.1,.int .i64 p'.2]) (w':=Ep w1 it (.mapIter (some b) es.length (seen++[q]).toArray es.length)) ?_ ?_
   · simp [execOp,ho,h1,h5]
   ·
    have je:Below w.heap.size w w1:=by
     rcases h4 with rfl|rfl
     · exact Below.refl _ _
     · exact (Below.refl _ _).drew
    have hI1:=(Hp M0 w0 S rs).st _ _ _ je hI
    obtain ⟨h6,h7⟩:=BG.uz (obj:= .mapIter (some b) es.length (seen++[q]).toArray es.length) (r':=O8 it b es.length (seen++[q])) hI1 hi rfl rfl rfl rfl hMi ⟨hMi,dA (Nat.lt_of_lt_of_le hlt je.size)⟩
    refine hK _ _ _ _ (k2 q p' hp' h3) ⟨M,by rw [CB];exact hsz,by rw [put_defers];exact hdf,?_,h6⟩
    intro s p hp
    simp only [List.lookup] at hp
    by_cases hs:s=d
    · subst hs;simp at hp;subst hp;rw [hd,B_ Gm];exact ⟨_,rfl,rfl,rfl,rfl,trivial⟩
    ·
     rw [show (s==d)=false by simpa using hs] at hp
     rw [hd,Bz hs]
     exact p.st _ _ _ _ _ ((Ext.below je).trans h7) (he s p hp)
omit [DecidableEq κ] in
theorem TO.entry {it q:Nat} {es:List (κ×Int)} {seen:List Nat} {p:κ×Int} (hg:o.guard=none) (hd:o.dst=some d) (hn:d<n) (ho:o.op= .entry x) (hx:VL E x (ptr it 0)) (hi:rs[i]? =some (O8 it b es.length (seen++[q]))) (hj:rs[j]? =some (jd enc b es)) (hq:es[q]? =some p) (k:TO P n ops r ((d,D_ [is (enc p.1),int p.2])::E) (Hp M0 w0 S rs) Q):TO P n ops (o::r) E (Hp M0 w0 S rs) Q:=
 TO.Xa hg fun K M w a hsz hdf he hI hK=>by
  have h1:a.eval x= .pointer (some ⟨it,0,none⟩):=hx.ev (o:=o) (CW he) At
  obtain ⟨⟨_,hit⟩,_⟩:=BG.hold hI _ (List.mem_of_getElem? hi)
  obtain ⟨_,hh⟩:=(BG.hold hI _ (List.mem_of_getElem? hj)).1
  have hat:(S_ (Nz enc es))[q]? =some { key:=enc p.1,val:= .int .i64 p.2,born:=q }:=by rw [Ny];simp [Nz,hq]
  have hnd:((S_ (Nz enc es)).toList.map (·.born)).Nodup:=by
   have:(S_ (Nz enc es)).toList.map (·.born)=List.range (Nz enc es).length:=by
    apply List.ext_getElem?
    intro k
    rw [List.getElem?_map,Array.getElem?_toList,Ny]
    by_cases hk:k<(Nz enc es).length
    · rw [List.getElem?_range hk,List.getElem?_eq_getElem hk];rfl
    · rw [List.getElem?_eq_none (Nat.le_of_not_lt hk),List.getElem?_eq_none (by simp at hk ⊢;omega)];rfl
   rw [this];exact List.nodup_range
  have hfind:(S_ (Nz enc es)).find? (fun e=>e.born==q)=some { key:=enc p.1,val:= .int .i64 p.2,born:=q }:=by
   rw [←Array.find?_toList]
   exact find_born { key:=enc p.1,val:= .int .i64 p.2,born:=q } _ hnd (List.mem_iff_getElem?.2 ⟨q,by rw [Array.getElem?_toList];exact hat⟩)
  refine TO.val (v:= .tuple #[enc p.1,.int .i64 p.2]) (w':=w) ?_ ?_
  ·
   have:(Instr.entry (.pointer (some ⟨it,0,none⟩))).run P w= .ok (.tuple #[enc p.1,.int .i64 p.2]) w:=by
    have hb:(seen++[q]).toArray.back? =some q:=by simp
    simp only [Instr.entry,getObj,Sem.run_bind,Sem.run,hit,hh,Result.andThen,hb,bne_self_eq_false,Bool.false_eq_true,if_false,hfind]
    rfl
   simp [execOp,ho,h1,this]
  ·
   refine hK _ _ _ _ k ⟨M,by rw [CB];exact hsz,by rw [put_defers];exact hdf,?_,hI⟩
   intro s p hp
   simp only [List.lookup] at hp
   by_cases hs:s=d
   · subst hs;simp at hp;subst hp;rw [hd,B_ Gm];exact ⟨_,rfl,rfl,rfl,trivial⟩
   ·
    rw [show (s==d)=false by simpa using hs] at hp
    rw [hd,Bz hs];exact he s p hp
end
section
variable {P:Program} {L:Lg P}
end
section
variable {P:Program} {L:Lg P} {n:Fm} {fz:Nat} {E:Env} {M0:Av} {w0:World} {S:Nat→Prop} {rs:List A7} {o:Oper}
theorem MJ (w:World) (A:Option Addr) (t ty e:TypeId) (i:TypeInfo) (z:Value) (ht:P.underlying t=some (.slice e)) (hi:P.info? e=some i) (hz:i.zero=some z)
  (a:Addr) (n c:Nat) (news:List Value) (hl:news.length=n*i.size) (hnews:∀j v,news[j]? =some v→w.cell? (a.add j)=some v)
  (h0:0<n) (h63:(n:Int)≤9223372036854775807) (h48:n*i.bytes≤281474976710656):
  (Builtin.append_ #[t, t] ty #[.slice A 0 0, .slice (some a) n c]).run P w =
   .ok (.slice (some ⟨w.heap.size,0,none⟩) n (grownCap w n 0 e)) (w.drew.alloc (.cells (news.toArray++Builtin.zeroCells z.cells (grownCap w n 0 e-n)) e)):=by
 cases A with
 |none=>exact run_append_nil (w:=w) t ty e i z ht hi hz a n c news hl hnews h0 h63 h48
 |some b=>
  have:=run_append_grow (w:=w) t ty e i z ht hi hz b 0 0 [] Aa Aa a n c news hl hnews AA (by simpa using h63) (by rw [Nat.zero_add,nextslicecap_zero h0];exact h48)
  simpa using this
theorem Yi {ty e:TypeId} {sz bytes:Nat} {u:Value} (A:Option Addr) (ht:P.underlying t=some (.slice e)) (hz:Al P e=some sz) (hby:CC P e=some bytes) (DD:BS P e=some zs) (hzl:zs.length=sz) (hone:zs.all (·.oneCell')=true) (hsz:0<sz) (h:BG M0 w0 S rs M w) (hj:rs[j]? =some BW) (hu:(slice sz rows).h M w u) (hpos:0<rows.length) (FH:rows.length≤maxLen) (hfit:rows.length*bytes≤140737488355328):
  ∃v' w' M',(Builtin.append_ #[t,t] ty #[.slice A 0 0,u]).run P w= .ok v' w'∧(lens rows.length).h M' w' v'∧Ext M w M' w'∧BG M0 w0 S (rs.set j (C3 e sz rows v')) M' w':=by
 unfold Al at hz
 unfold CC at hby
 unfold BS at DD
 cases hi:P.info? e with
 |none=>rw [hi] at hz;cases hz
 |some i=>
  rw [hi] at hz hby DD
  simp only [Option.map_some,Option.some.injEq,Option.map_eq_some_iff] at hz hby DD
  obtain ⟨z,Re,DD⟩:=DD
  have Od:z.cells.size=sz:=by rw [←hzl,←DD];simp
  obtain ⟨A',c',rfl,bV,Qa,Xb,Ef⟩:=hu
  have IZ:(slice sz rows).h M w (.slice A' rows.length c'):=⟨A',c',rfl,bV,Qa,Xb,Ef⟩
  obtain ⟨LR,rfl⟩:∃LR,A'=some LR:=by
   obtain ⟨_,b,hb,_⟩:=Ef 0 _ (List.getElem?_eq_getElem hpos)
   exact ⟨b,hb⟩
  obtain ⟨news,hfl,hcell⟩:=Ee hsz IZ
  have hrun:=MJ (P:=P) w A t ty e i z ht hi Re LR rows.length c' news (by rw [hz];exact hfl.1) (fun k u hk=>(hcell k u hk).1) hpos MX (by rw [hby];omega)
  generalize hcap:grownCap w rows.length 0 e=cap at hrun
  have hge:rows.length≤cap:=by rw [←hcap];exact grownCap_ge _ _ _ _
  have hle:cap≤maxLen:=by rw [←hcap];exact grownCap_le_maxLen _ _ _ _ FH
  generalize Oe:Builtin.zeroCells z.cells (cap-rows.length)=zc at hrun
  have hzs:zc.size=(cap-rows.length)*sz:=by rw [←Oe,size_zeroCells,Od]
  have hzo:∀c∈zc.toList,c.oneCell'=true:=by rw [←Oe];exact Dh DD hone
  have hb:Below w.heap.size w (w.drew.alloc (.cells (news.toArray++zc) e)):=((Below.refl _ _).drew).alloc (Nat.le_refl _) _
  have h2:=Ext.below (M:=M) hb
  have EF:Ext M w (fun b o=>M b o∨b=w.heap.size) (w.drew.alloc (.cells (news.toArray++zc) e)):=by
   refine ⟨h2.size,fun a v hc hm=>⟨fun hx=> ?_,(h2.keep a v hc hm).2⟩,fun b o ho hp hm=>⟨fun hx=> ?_,(h2.obj b o ho hp hm).2⟩⟩
   ·
    rcases hx with hx|hx
    · exact hm hx
    · exact ES
   · grind
  have hs1:(w.drew.alloc (.cells (news.toArray++zc) e)).heap.size=w.heap.size+1:=by simp
  refine ⟨_,_,fun b o=>M b o∨b=w.heap.size,hrun,⟨_,_,rfl⟩,EF,?_⟩
  refine h.replace hj EF hb.os hb.tape hb.output (fun k hk _=>hb.block k hk) rfl (fun b o hm _=> .inl hm) (fun b o hx=> ?_) ?_ rfl (fun b hbk=> ?_)
  ·
   rcases hx with hx|hx
   · exact JA
   · omega
  ·
   refine ⟨w.heap.size,cap,zc.toList,rfl,hge,hle,by simpa using hzs,fun o=> .inr rfl,news++zc.toList,?_,?_,?_⟩
   ·
    have hh:(w.drew.alloc (.cells (news.toArray++zc) e)).heap[w.heap.size]? =some (.cells (news.toArray++zc) e (0,0)):=heap_alloc_new w.drew _
    rw [hh];simp
   · exact ((hfl.st EF).hl hsz).app (Lz _ _ _)
   ·
    intro c hc
    rcases List.mem_append.1 hc with hc|hc
    · exact hfl.2.1 c hc
    · exact hzo c hc
  ·
   have EE:some w.heap.size=some b:=hbk
   injection EE with e1
   subst e1
   exact ⟨by rw [hs1];omega,.inr (Nat.le_refl _)⟩
theorem FM {e:TypeId} {y:Operand} {sz':Nat} {sz bytes:Nat} (hg:o.guard=none) (hd:o.dst=some d) (hn:d<n) (ho:o.op= .call { callee:= .builtin .append,args:= #[x,y],argTypes:= #[t,t] }) (ht:P.underlying t=some (.slice e)) (hz:Al P e=some sz) (hby:CC P e=some bytes) (DD:BS P e=some zs) (hzl:zs.length=sz) (hone:zs.all (·.oneCell')=true) (hsz:0<sz) (hx:VL E x (full sz' [])) (hy:VL E y (slice sz rows)) (hpos:0<rows.length) (FH:rows.length≤maxLen) (hfit:rows.length*bytes≤140737488355328):D6 P M0 w0 S n j (SR.c BW) ⟨d,C3 e sz rows⟩ o E (lens rows.length):=by
 refine ⟨hg,fun M w a rs NO he hI hj=> ?_⟩
 have h2:=hy.ev he B2
 obtain ⟨_,A,h1⟩:=hx.ev he B2
 simp only [List.length_nil] at h1
 obtain ⟨v',w',M',hrun,h3,h4,h5⟩:=Yi A (ty:=o.type) ht hz hby DD hzl hone hsz hI hj h2 hpos FH hfit
 have C9:(execOp a.eval o).run P w= .ok (.value v') w':=by simp [execOp,ho,resolve,invoke,builtin,h1,hrun]
 rw [C9]
 refine ⟨M',h3,h4,?_⟩
 have:(SR.at_ (a.put o.dst v') ⟨d,C3 e sz rows⟩)=C3 e sz rows v':=by unfold SR.at_ Slot.val;dsimp only;rw [hd,B_ I7]
 rw [this];exact h5
theorem Dw {I:CU} {e:TypeId} {A:Option Addr} (ho:o.op= .call { callee:= .builtin .len,args:= #[x],argTypes:= #[t] }) (ht:P.underlying t=some (.slice e)) (hx:VL E x (is (.slice A m cap))):Ab P I o E (int m):=
 Ab.same fun M w a he _=>by
  have h1:a.eval x=_:=hx.ev he B2
  exact ⟨.int .i64 m,by simp [execOp,ho,resolve,invoke,builtin,Builtin.len_,h1,run_underlying ht,goInt],rfl⟩
theorem Fg {I:CU} {e:TypeId} {y:Operand} {k:IntKind} {h:Int} {sz:Nat} (ho:o.op= .slice t x none (some y) none) (ht:P.underlying t=some (.slice e)) (hz:Al P e=some sz) (hx:VL E x (is (.slice (some ⟨b,0,none⟩) m cap))) (hy:VL E y (is (.int k h))) (h0:0≤h) (hl:h≤m) (hc:m≤cap) (h1m:0<cap):
  Ab P I o E (is (.slice (some ⟨b,0,none⟩) h.toNat cap)):=
 Ab.same fun M w a he _=>by
  have h1:a.eval x=_:=hx.ev he At
  have h3:a.eval y=_:=hy.ev he At
  have hb:h≤(cap:Int):=by omega
  refine ⟨_,?_,rfl⟩
  simp [execOp,ho,h1,h3,Instr.sliceAt,Instr.slice,run_underlying ht,Instr.sliceBounds,Instr.sliceBound,asIntOf,h0,hb,Bg hz]
  intro _;rfl
theorem B4 {I:CU} {e:TypeId} {y:Operand} {k:IntKind} {l:Int} {sz:Nat} (ho:o.op= .slice t x (some y) none none) (ht:P.underlying t=some (.slice e)) (hz:Al P e=some sz) (hx:VL E x (is (.slice (some ⟨b,0,none⟩) m cap))) (hy:VL E y (is (.int k l))) (h0:0≤l) (hl:l<m) (hc:m≤cap):
  Ab P I o E (is (.slice (some ⟨b,l.toNat*sz,none⟩) (m-l.toNat) (cap-l.toNat))):=
 Ab.same fun M w a he _=>by
  have h1:a.eval x=_:=hx.ev he At
  have h3:a.eval y=_:=hy.ev he At
  have hb:l≤(m:Int):=by omega
  have hne:¬cap=l.toNat:=by omega
  refine ⟨_,?_,rfl⟩
  simp [execOp,ho,h1,h3,Instr.sliceAt,Instr.slice,run_underlying ht,Instr.sliceBounds,Instr.sliceBound,asIntOf,h0,hb,Bg hz,hne,Ce]
theorem dD {z:Array Value} (hz:z.toList=zs) (h0:0<zs.length):HL M w (List.replicate k (zs.map is)).flatten (Builtin.zeroCells z k).toList:=by
 have hlr:∀r∈List.replicate k (zs.map is),r.length=zs.length:=fun r hr=>by grind
 have hfl:=CV hlr
 rw [List.length_replicate] at hfl
 have hzs:z.size=zs.length:=by rw [←hz];simp
 refine R6 (by rw [Array.length_toList,size_zeroCells,hfl,hzs]) fun i p hi=> ?_
 have FT:i<k*zs.length:=by grind
 have hq:i/zs.length<k:=Nat.div_lt_of_lt_mul (by rw [Nat.mul_comm];exact FT)
 have hm:i % zs.length<zs.length:=Nat.mod_lt _ h0
 have he:i/zs.length*zs.length+i % zs.length=i:=by rw [Nat.mul_comm];exact Nat.div_add_mod i _
 rw [←he,HV hlr (by rw [List.getElem?_replicate,if_pos hq]) hm,List.getElem?_map,List.getElem?_eq_getElem hm] at hi
 simp only [Option.map_some,Option.some.injEq] at hi
 subst hi
 refine ⟨zs[i % zs.length],?_,rfl⟩
 have hzl:i<k*z.size:=by rw [hzs];exact FT
 simp only [Builtin.zeroCells,Array.toList_map,Array.toList_range,List.getElem?_map]
 rw [List.getElem?_range hzl]
 subst hz
 simp only [Option.map_some,Option.some.injEq]
 have hm':i % z.size<z.size:=by rw [hzs];exact hm
 rw [getElem!_pos z _ hm',←Array.getElem_toList]
 congr 1
theorem SA {e:TypeId} {off sz:Nat} {ps':List Pr} (hg:o.guard=none) (ho:o.op= .call { callee:= .builtin .clear,args:= #[x],argTypes:= #[t] }) (ht:P.underlying t=some (.slice e)) (hz:Al P e=some sz) (DD:BS P e=some zs) (hzl:zs.length=sz) (hone:zs.all (·.oneCell')=true) (hsz:0<sz) (hx:VL E x (is (.slice (some ⟨b,off,none⟩) m cap))) (hm:0<m) (hl:off+m*sz≤ps.length) (hps:ps.take off++(List.replicate m (zs.map is)).flatten++ps.drop (off+m*sz)=ps'):D6 P M0 w0 S n j (SR.c (AE new b T ps)) (SR.c (AE new b T ps')) o E any:=by
 refine ⟨hg,fun M w a rs NO he hI hj=> ?_⟩
 have h1:a.eval x=_:=hx.ev he B2
 unfold BS at DD
 cases hi:P.info? e with
 |none=>rw [hi] at DD;cases DD
 |some i=>
  rw [hi] at DD
  simp only [Option.map_eq_some_iff] at DD
  obtain ⟨z,Re,DD⟩:=DD
  have Od:z.cells.size=sz:=by rw [←hzl,←DD];simp
  obtain ⟨⟨_,cs,h4,h5,h6⟩,_⟩:=hI.hold _ (List.mem_of_getElem? hj)
  have a_:=h5.length
  have hzs:(Builtin.zeroCells z.cells m).size=m*sz:=by rw [size_zeroCells,Od]
  have h3:∀c∈(Builtin.zeroCells z.cells m).toList,c.oneCell'=true:=Dh DD hone
  have hrun:(storeCells ⟨b,off,none⟩ (Builtin.zeroCells z.cells m).toList 0).run P w= .ok () (w.setRow b (cs.take off++(Builtin.zeroCells z.cells m).toList++cs.drop (off+m*sz)).toArray):=by
   have:=run_storeCells_at (P:=P) b off T (Builtin.zeroCells z.cells m).toList 0 cs.toArray w h4 (by simp [hzs];omega) h3
   simpa [hzs] using this
  obtain ⟨m',rfl⟩:∃m',m=m'+1:=⟨m-1,by omega⟩
  have C9:(execOp a.eval o).run P w= .ok (.value (.tuple #[])) (w.setRow b (cs.take off++(Builtin.zeroCells z.cells (m'+1)).toList++cs.drop (off+(m'+1)*sz)).toArray):=by
   simp [execOp,ho,h1,resolve,invoke,builtin,Builtin.clear_,run_underlying ht,zeroValue,typeInfo,hi,Re,hrun]
  rw [C9]
  obtain ⟨h7, h8⟩ := BG.write (qs := ps') (cs := cs.take off ++ (Builtin.zeroCells z.cells (m' + 1)).toList ++ cs.drop (off + (m' + 1) * sz)) hI hj (by rw [← hps]; exact (((h5.take off).app (dD DD AA))).app (h5.drop (off + (m' + 1) * sz)))
   (fun c hc=>by
    simp only [List.mem_append] at hc
    rcases hc with (hc|hc)|hc
    · grind
    · exact h3 c hc
    · exact h6 c (List.mem_of_mem_drop hc))
  exact ⟨M,trivial,h8,h7⟩
theorem Yj {β:Type} {f:β→List Pr} {l:List β} {sz:Nat} (hf:∀x,(f x).length=sz) {x:β} (h:l[i]? =some x):((((l.map f).flatten++qs).drop (i*sz)).take sz)=f x:=by
 have hl:∀r∈l.map f,r.length=sz:=fun r hr=>by grind
 have hi:i<l.length:=by grind
 have hfl:=CV hl
 rw [List.length_map] at hfl
 have hle:(i+1)*sz≤l.length*sz:=Nat.mul_le_mul_right sz hi
 rw [Nat.add_mul,Nat.one_mul] at hle
 apply List.ext_getElem?
 intro k
 rw [List.getElem?_take]
 split
 ·
  rename_i hk
  rw [List.getElem?_drop,List.getElem?_append_left (by rw [hfl];omega),HV hl (by rw [List.getElem?_map,h];rfl) hk]
 · grind
theorem O9 {β:Type} {f:β→List Pr} {sz:Nat} (hf:∀x,(f x).length=sz):∀{l:List β} {qs:List Pr} {i:Nat} {x:β},i<l.length→((l.map f).flatten++qs).take (i*sz)++f x++((l.map f).flatten++qs).drop (i*sz+sz)=((l.set i x).map f).flatten++qs
 |[],_,_,_,h=>by simp at h
 |a::l,qs,0,x,_=>by
  simp only [List.map_cons,List.flatten_cons,Nat.zero_mul,List.take_zero,List.nil_append,Nat.zero_add,List.set_cons_zero]
  rw [←hf a,List.append_assoc,List.drop_left,List.append_assoc]
 |a::l,qs,i+1,x,h=>by
  have ih:=O9 hf (l:=l) (qs:=qs) (i:=i) (x:=x) FF
  simp only [List.map_cons,List.flatten_cons,List.set_cons_succ]
  have e1:(i+1)*sz=(f a).length+i*sz:=by rw [hf a,Nat.add_mul];omega
  rw [List.append_assoc,List.append_assoc,e1,List.take_append,List.take_of_length_le AA,show (f a).length+i*sz-(f a).length=i*sz by omega,show (f a).length+i*sz+sz=(f a).length+(i*sz+sz) by omega,List.drop_append,List.drop_of_length_le AA,show (f a).length+(i*sz+sz)-(f a).length=i*sz+sz by omega,List.nil_append,List.append_assoc (f a) _ qs,←ih]
  simp only [List.append_assoc]
theorem TO.Nu {Q:Exit→Act→World→Prop} {e:TypeId} {sz:Nat} (j:Nat) (hj:rs[j]? =some (C3 e sz rows v)) (k:∀(b cap:Nat) (spare:List Value),v= .slice (some ⟨b,0,none⟩) rows.length cap→rows.length≤cap→cap≤maxLen→spare.length=(cap-rows.length)*sz→TO P n ops r E (Hp M0 w0 S (rs.set j (AE true b e (rows.flatten++spare.map is)))) Q):TO P n ops r E (Hp M0 w0 S rs) Q:=
 fun m hl a w hs=>let ⟨b,cap,spare,h1,h2,h3,h4,h5⟩:=hs.Nu j hj;k b cap spare h1 h2 h3 h4 m hl a w h5
theorem LI {β:Type} {f:β→List Pr} {l:List β} {sz:Nat} (hf:∀x,(f x).length=sz):((l.map f).flatten++qs).length=l.length*sz+qs.length:=by
 rw [List.length_append,CV (sz:=sz) (fun r hr=>by obtain ⟨y,_,rfl⟩:=List.mem_map.1 hr;exact hf y),List.length_map]
theorem Aj {β:Type} {f:β→List Pr} {l:List β} {sz:Nat} (hf:∀x,(f x).length=sz):∀r∈l.map f,r.length=sz:=by grind
theorem St.Qu {sz:Nat} {e:TypeId} (j d:Nat) (hj:rs[j]? =some (AE true b e (rows.flatten++qs))) (hd:E.lookup d=some p) (hp:Pr.le p (is (.slice (some ⟨b,0,none⟩) rows.length cap))) (hl:∀r∈rows,r.length=sz) (hc:rows.length≤cap) (hm:cap≤maxLen) (hq:qs.length=(cap-rows.length)*sz) (h:St n E (Hp M0 w0 S rs) a w):St n ((d,Ao (.slice (some ⟨b,0,none⟩) rows.length cap) (slice sz rows))::E) (Hp M0 w0 S (rs.set j (Bi e sz (.slice (some ⟨b,0,none⟩) rows.length cap)))) a w:=by
 obtain ⟨M,h1,h2,h3,h4⟩:=h
 obtain ⟨M',h5,h6,h7⟩:=BG.bB h4 hj hl hc hm hq
 refine ⟨M',h1,h2,fun s q hs=> ?_,h6⟩
 simp only [List.lookup] at hs
 split at hs
 ·
  rename_i e1
  have:s=d:=by simpa using e1
  subst this
  simp only [Option.some.injEq] at hs
  subst hs
  have h8:=hp _ _ _ (h3 _ _ hd)
  exact ⟨h8,by rw [show a.tmps.getD s undef=_ from h8];exact h7⟩
 · exact q.st _ _ _ _ _ h5 (h3 s q hs)
theorem Tr.Qu {Q:Exit→Act→World→Prop} {c:Code} {sz:Nat} {e:TypeId} (rows:List (List Pr)) (j d:Nat) (hj:rs[j]? =some (AE true b e (rows.flatten++qs))) (hd:E.lookup d=some p) (hp:Pr.le p (is (.slice (some ⟨b,0,none⟩) rows.length cap))) (hl:∀r∈rows,r.length=sz) (hc:rows.length≤cap) (hm:cap≤maxLen) (hq:qs.length=(cap-rows.length)*sz) (k:Tr L n ((d,Ao (.slice (some ⟨b,0,none⟩) rows.length cap) (slice sz rows))::E) (Hp M0 w0 S (rs.set j (Bi e sz (.slice (some ⟨b,0,none⟩) rows.length cap)))) c Q):Tr L n E (Hp M0 w0 S rs) c Q:=
 Tr.conv (fun _ _ hs=>hs.Qu j d hj hd hp hl hc hm hq) k
theorem Fin.Qu {Q:Exit→Act→World→Prop} {x:Exit} {sz:Nat} {e:TypeId} (rows:List (List Pr)) (j d:Nat) (hj:rs[j]? =some (AE true b e (rows.flatten++qs))) (hd:E.lookup d=some p) (hp:Pr.le p (is (.slice (some ⟨b,0,none⟩) rows.length cap))) (hl:∀r∈rows,r.length=sz) (hc:rows.length≤cap) (hm:cap≤maxLen) (hq:qs.length=(cap-rows.length)*sz) (k:Fin n ((d,Ao (.slice (some ⟨b,0,none⟩) rows.length cap) (slice sz rows))::E) (Hp M0 w0 S (rs.set j (Bi e sz (.slice (some ⟨b,0,none⟩) rows.length cap)))) Q x):Fin n E (Hp M0 w0 S rs) Q x:=
 Fin.conv (fun _ _ hs=>hs.Qu j d hj hd hp hl hc hm hq) k
end
section
variable {P:Program} {L:Lg P} {n:Fm} {fz:Nat} {E:Env} {M0:Av} {w0:World} {S:Nat→Prop} {rs:List A7} {o:Oper} {g:Func} {M1:Av} {w1:World}
def J2 (T:TypeId) (ps:List Pr) (v:Value):A7:=match v with| .pointer (some a)=>AE true a.block T ps|_=>BW
theorem Em (hg:o.guard=none) (hd:o.dst=some d) (hn:d<n) (ho:o.op= .alloc T) (hz:BS P T=some zs) (h1':zs.all (·.oneCell')=true):
  D6 P M0 w0 S n j (SR.c BW) ⟨d,J2 T (zs.map is)⟩ o E (Cp.ex fun b=>ptr b 0):=by
 refine ⟨hg,fun M w a rs NO he hI hj=> ?_⟩
 have h1:∀c∈zs,c.oneCell'=true:=fun c hc=>List.all_eq_true.1 h1' c hc
 obtain ⟨z,JD,YA⟩:=Ro hz w
 have hrun:(execOp a.eval o).run P w= .ok (.value (.pointer (some ⟨w.heap.size,0,none⟩))) (w.alloc (.cells zs.toArray T)):=by simp [execOp,ho,Instr.alloc,JD,newVar,newRow,←YA]
 rw [hrun]
 have hb:Below w.heap.size w (w.alloc (.cells zs.toArray T)):=(Below.refl _ _).alloc (Nat.le_refl _) _
 have h2:=Ext.below (M:=M) hb
 have EF:Ext M w (fun b o=>M b o∨b=w.heap.size) (w.alloc (.cells zs.toArray T)):=by
  refine ⟨h2.size,fun a v hc hm=>⟨fun hx=> ?_,(h2.keep a v hc hm).2⟩,fun b o ho hp hm=>⟨fun hx=> ?_,(h2.obj b o ho hp hm).2⟩⟩
  ·
   rcases hx with hx|hx
   · exact hm hx
   · exact ES
  · grind
 have hs1:(w.alloc (.cells zs.toArray T)).heap.size=w.heap.size+1:=by simp
 have hat:(SR.at_ (a.put o.dst (.pointer (some ⟨w.heap.size,0,none⟩))) ⟨d,J2 T (zs.map is)⟩)=AE true w.heap.size T (zs.map is):=by unfold SR.at_ Slot.val;dsimp only;rw [hd,B_ I7];rfl
 refine ⟨fun b o=>M b o∨b=w.heap.size,⟨_,rfl⟩,EF,?_⟩
 rw [hat]
 refine hI.replace hj EF hb.os hb.tape hb.output (fun k hk _=>hb.block k hk) rfl (fun b o hm _=> .inl hm) (fun b o hx=> ?_) ?_ rfl (fun b hbk=> ?_)
 ·
  rcases hx with hx|hx
  · have:=hI.bd _ _ hx;omega
  · omega
 · refine ⟨fun o=> .inr rfl,zs,heap_alloc_new w _,Lz _ _ _,h1⟩
 ·
  have EE:some w.heap.size=some b:=hbk
  injection EE with e1
  subst e1
  exact ⟨by rw [hs1];omega,.inr (Nat.le_refl _)⟩
theorem En {s:Tmp} {y:Operand} (hg:o.guard=none) (hd:o.dst=none) (ho:o.op= .store t (.tmp s) y) (hx:E.lookup s=some (Cp.ex fun b=>ptr b 0)) (hy:VL E y (DR qs)) (hz:Al P t=some m) (hm:qs.length=m) (hl:ps.length=m):D6 P M0 w0 S n j ⟨s,J2 T ps⟩ ⟨s,J2 T qs⟩ o E any:=by
 refine ⟨hg,fun M w a rs hsz he hI hj=> ?_⟩
 have hxv:VL E (.tmp s) (Cp.ex fun b=>ptr b 0):=⟨_,hx,Pr.le_refl _⟩
 obtain ⟨b,h1'⟩:=hxv.ev he (show (Operand.tmp s)∈o.op.operands.toList by simp [ho,Op.operands])
 have h1:a.eval (.tmp s)= .pointer (some ⟨b,0,none⟩):=h1'
 have h1t:a.tmps.getD s undef= .pointer (some ⟨b,0,none⟩):=h1
 have hj':rs[j]? =some (AE true b T ps):=by
  rw [hj];show some (J2 T ps (a.tmps.getD s undef))=_;rw [h1t];rfl
 obtain ⟨h2,h3⟩:=hy.ev he (show y∈o.op.operands.toList by simp [ho,Op.operands])
 obtain ⟨⟨_,cs,h4,h5,h6⟩,_⟩:=hI.hold _ (List.mem_of_getElem? hj')
 have a_:=h5.length
 have gA:=h2.length
 have hcells:(a.eval y).cells.size=m:=by rw [←hm,←gA];simp
 have hrun:(storeCells ⟨b,0,none⟩ (a.eval y).cells.toList 0).run P w= .ok () (w.setRow b (cs.take 0++(a.eval y).cells.toList++cs.drop (0+m)).toArray):=by
  have:=run_storeCells_at (P:=P) b 0 T (a.eval y).cells.toList 0 cs.toArray w h4 CK h3
  simpa [hcells] using this
 have pN:cs.drop (0+m)=[]:=List.drop_eq_nil_of_le AA
 rw [pN,List.take_zero,List.nil_append,List.append_nil] at hrun
 have C9:(execOp a.eval o).run P w= .ok .skip (w.setRow b (a.eval y).cells.toList.toArray):=by
  simp only [execOp,ho,h1,Instr.storeAt,Instr.sureAddr,storeVar]
  simp [Bg hz,hcells,hrun]
 rw [C9]
 obtain ⟨h7,h8⟩:=BG.write (qs:=qs) (cs:=(a.eval y).cells.toList) hI hj' h2 h3
 refine ⟨M,trivial,h8,?_⟩
 have hat:(SR.at_ (a.put o.dst undef) ⟨s,J2 T qs⟩)=AE true b T qs:=by
  rw [hd];show J2 T qs (a.tmps.getD s undef)=_;rw [h1t];rfl
 rw [hat];exact h7
theorem Fin.VR {Q:Exit→Act→World→Prop} {x:Exit} (s j:Nat) {f:Value→A7} (g:Nat→A7) (hs:E.lookup s=some (Ao v (Cp.ex fun b=>ptr b 0))) (hi:rs[j]? =some (f v)) (hf:∀b,f (.pointer (some ⟨b,0,none⟩))=g b) (k:∀b,Fin n ((s,ptr b 0)::E) (Hp M0 w0 S (rs.set j (g b))) Q x):Fin n E (Hp M0 w0 S rs) Q x:=by
 intro a w hst
 obtain ⟨M,h1,h2,he,h4⟩:=hst
 obtain ⟨h5,b,h6⟩:=he s _ hs
 have hv:v= .pointer (some ⟨b,0,none⟩):=by rw [←h5];exact h6
 have hj:rs.set j (g b)=rs:=by
  have hjl:j<rs.length:=by grind
  rw [←hf b,←hv]
  rw [List.getElem?_eq_getElem hjl] at hi
  simp at hi
  rw [←hi,List.set_getElem_self]
 refine k b a w ⟨M,h1,h2,?_,by rw [hj];exact h4⟩
 intro t q hq
 simp only [List.lookup] at hq
 by_cases ht:t=s
 · grind
 · exact LF
end
section
variable {P:Program} {L:Lg P} {n:Fm} {fz:Nat} {E:Env} {M0:Av} {w0:World} {S:Nat→Prop} {rs:List A7} {o:Oper}
def Bf (e:TypeId) (sz:Nat) (rows:List (List Pr)) (v:Value):A7 where
 blk:=match v with| .slice (some a) _ _=>some a.block|_=>none
 new:=true
 h M w:=(rows=[]∧v= .slice none 0 0)∨(C3 e sz rows v).h M w
 st M w M' w' he hk h:=h.imp id fun h=>(C3 e sz rows v).st M w M' w' he hk h
theorem Tr.N0 {Q:Exit→Act→World→Prop} {c:Code} (e:TypeId) (sz:Nat) (k:Tr L n E (Hp M0 w0 S (Bf e sz [] (.slice none 0 0)::rs)) c Q):Tr L n E (Hp M0 w0 S rs) c Q:=
 Tr.conv (fun _ _ ⟨M,h1,h2,h3,h4⟩=>⟨M,h1,h2,h3,BG.LH h4 (r:=Bf e sz [] (.slice none 0 0)) rfl (Or.inl ⟨rfl,rfl⟩)⟩) k
theorem dF {ty e:TypeId} {sz bytes:Nat} {rows':List (List Pr)} {u:Value} (ht:P.underlying t=some (.slice e)) (hz:Al P e=some sz) (hby:CC P e=some bytes) (DD:BS P e=some zs) (hzl:zs.length=sz) (hone:zs.all (·.oneCell')=true) (hsz:0<sz) (h:BG M0 w0 S rs M w) (hj:rs[j]? =some (Bf e sz rows v)) (hl:∀r∈rows,r.length=sz) (hu:(slice sz rows').h M w u) (hpos:0<rows'.length) (FH:rows.length+rows'.length≤maxLen) (hfit:(rows.length+rows'.length)*bytes≤140737488355328):
  ∃v' w' M',(Builtin.append_ #[t,t] ty #[v,u]).run P w= .ok v' w'∧(lens (rows.length+rows'.length)).h M' w' v'∧Ext M w M' w'∧BG M0 w0 S (rs.set j (Bf e sz (rows++rows') v')) M' w':=by
 have hjl:j<rs.length:=by grind
 rcases (h.hold _ (List.mem_of_getElem? hj)).1 with ⟨rfl,rfl⟩|Yk
 ·
  have h1:=h.C0 (r':=BW) hj rfl rfl trivial
  have hj1:(rs.set j BW)[j]? =some BW:=List.getElem?_set_self hjl
  obtain ⟨v',w',M',hrun,h2,h3,h4⟩:=cz (ty:=ty) ht hz hby DD hzl hone hsz h1 hj1 hu hpos (by simpa using FH) (by simpa using hfit)
  rw [List.set_set] at h4
  have h5:=h4.C0 (r':=Bf e sz ([]++rows') v') (List.getElem?_set_self hjl) rfl rfl (.inr (h4.hold _ (List.mem_of_getElem? (List.getElem?_set_self hjl))).1)
  rw [List.set_set] at h5
  exact ⟨v',w',M',hrun,by simpa using h2,h3,h5⟩
 ·
  obtain ⟨b,cap,spare,rfl,hnc,hcm,hsp,TC⟩:=Yk
  have hC:=h.C0 (r':=AE true b e (rows.flatten++spare.map is)) hj rfl rfl TC
  have hjC:(rs.set j (AE true b e (rows.flatten++spare.map is)))[j]? =some (AE true b e (rows.flatten++spare.map is)):=List.getElem?_set_self hjl
  obtain ⟨⟨hMb,cs,gZ,hcs,Yl⟩,f_⟩:=hC.hold _ (List.mem_of_getElem? hjC)
  have hfl:=CV hl
  have bX:=hcs.length
  rw [List.length_append,hfl,List.length_map,hsp,←Nat.add_mul,show rows.length+(cap-rows.length)=cap by omega] at bX
  unfold Al at hz
  unfold CC at hby
  unfold BS at DD
  cases hi:P.info? e with
  |none=>rw [hi] at hz;cases hz
  |some i=>
   rw [hi] at hz hby DD
   simp only [Option.map_some,Option.some.injEq,Option.map_eq_some_iff] at hz hby DD
   obtain ⟨z,Re,DD⟩:=DD
   have Od:z.cells.size=sz:=by rw [←hzl,←DD];simp
   obtain ⟨A',c',rfl,bV,Qa,Xb,Ef⟩:=hu
   have IZ:(slice sz rows').h M w (.slice A' rows'.length c'):=⟨A',c',rfl,bV,Qa,Xb,Ef⟩
   obtain ⟨LR,rfl⟩:∃LR,A'=some LR:=by
    obtain ⟨_,b,hb,_⟩:=Ef 0 _ (List.getElem?_eq_getElem hpos)
    exact ⟨b,hb⟩
   obtain ⟨news,O_,hcell⟩:=Ee hsz IZ
   have N1:=O_.1
   have hnews:=O_.hl hsz
   have hT:HL M w rows.flatten (cs.take (rows.length*sz)):=by
    have:=hcs.take (rows.length*sz)
    rwa [←hfl,List.take_left,hfl] at this
   have hne:(.slice (some ⟨b,0,none⟩) (rows++rows').length cap:Value)= .slice (some ⟨b,0,none⟩) (rows.length+rows'.length) cap:=by rw [List.length_append]
   by_cases hroom:rows.length+rows'.length≤cap
   ·
    have hle:(rows.length+rows'.length)*sz≤cap*sz:=Nat.mul_le_mul_right sz hroom
    rw [Nat.add_mul] at hle
    have hrun:=run_append_room (P:=P) (w:=w) t ty e i ht hi b rows.length cap cs.toArray gZ LR rows'.length c' news (by rw [hz];exact N1) (fun k u hk=>(hcell k u hk).1) O_.2.1 hroom (by rw [hz,N1];simp;omega)
    rw [hz,N1] at hrun
    have hD:HL M w ((spare.drop (rows'.length*sz)).map is) (cs.drop (rows.length*sz+rows'.length*sz)):=by
     have:=hcs.drop (rows.length*sz+rows'.length*sz)
     have e1:(rows.flatten++spare.map is).drop (rows.length*sz+rows'.length*sz)=(spare.drop (rows'.length*sz)).map is:=by rw [←hfl,←List.drop_drop,List.drop_left,List.map_drop]
     rwa [e1] at this
    obtain ⟨hW,hX⟩:=BG.write (qs:=rows.flatten++rows'.flatten++(spare.drop (rows'.length*sz)).map is) (cs:=cs.take (rows.length*sz)++news++cs.drop (rows.length*sz+rows'.length*sz)) hC hjC ((hT.app hnews).app hD) (fun c hc=>by
     simp only [List.mem_append] at hc
     rcases hc with (hc|hc)|hc
     · grind
     · exact O_.2.1 c hc
     · exact Yl c (List.mem_of_mem_drop hc))
    rw [List.set_set] at hW
    refine ⟨_,_,M,hrun,⟨_,_,rfl⟩,hX,?_⟩
    have hW2 := hW.C0 (r' := Bf e sz (rows ++ rows') (.slice (some ⟨b, 0, none⟩) (rows.length + rows'.length) cap)) (List.getElem?_set_self hjl) rfl rfl (.inr ⟨b, cap, spare.drop (rows'.length * sz), hne.symm, by rw [List.length_append]; exact hroom, hcm, by
     rw [List.length_drop,hsp,List.length_append,←Nat.sub_mul];congr 1;omega,by
     rw [List.flatten_append];exact (hW.hold _ (List.mem_of_getElem? (List.getElem?_set_self hjl))).1⟩)
    rw [List.set_set] at hW2
    exact hW2
   ·
    have hg:cap<rows.length+rows'.length:=by omega
    have holds:∀k u,(cs.take (rows.length*sz))[k]? =some u→w.cell? ((⟨b,0,none⟩:Addr).add k)=some u:=by
     intro k u hk
     have hk2:cs[k]? =some u:=by grind
     rw [Ce]
     simp [World.cell?,gZ,hk2]
    have hto:(cs.take (rows.length*sz)).length=rows.length*sz:=by rw [List.length_take,bX];exact Nat.min_eq_left (Nat.mul_le_mul_right sz hnc)
    have hrun:=run_append_grow (P:=P) (w:=w) t ty e i z ht hi Re ⟨b,0,none⟩ rows.length cap (cs.take (rows.length*sz)) (by rw [hz];exact hto) holds LR rows'.length c' news (by rw [hz];exact N1) (fun k u hk=>(hcell k u hk).1) hg MX (by rw [hby];exact growslice_fits hg hfit)
    generalize hcap:grownCap w (rows.length+rows'.length) cap e=cap' at hrun
    have hge:rows.length+rows'.length≤cap':=by rw [←hcap];exact grownCap_ge _ _ _ _
    have hle:cap'≤maxLen:=by rw [←hcap];exact grownCap_le_maxLen _ _ _ _ FH
    generalize Oe:Builtin.zeroCells z.cells (cap'-(rows.length+rows'.length))=zc at hrun
    have hzs:zc.size=(cap'-(rows.length+rows'.length))*sz:=by rw [←Oe,size_zeroCells,Od]
    have hzo:∀c∈zc.toList,c.oneCell'=true:=by rw [←Oe];exact Dh DD hone
    generalize jf:((cs.take (rows.length*sz)).toArray++news.toArray++zc)=arr at hrun
    have Gx:arr.toList=cs.take (rows.length*sz)++news++zc.toList:=by rw [←jf];simp
    have hb:Below w.heap.size w (w.drew.alloc (.cells arr e)):=((Below.refl _ _).drew).alloc (Nat.le_refl _) _
    have h2:=Ext.below (M:=M) hb
    have EF:Ext M w (fun b o=>M b o∨b=w.heap.size) (w.drew.alloc (.cells arr e)):=by
     refine ⟨h2.size,fun a v hc hm=>⟨fun hx=> ?_,(h2.keep a v hc hm).2⟩,fun b o ho hp hm=>⟨fun hx=> ?_,(h2.obj b o ho hp hm).2⟩⟩
     ·
      rcases hx with hx|hx
      · exact hm hx
      · exact ES
     · grind
    have hs1:(w.drew.alloc (.cells arr e)).heap.size=w.heap.size+1:=by simp
    refine ⟨_,_,fun b o=>M b o∨b=w.heap.size,hrun,⟨_,_,rfl⟩,EF,?_⟩
    refine h.replace hj EF hb.os hb.tape hb.output (fun k hk _=>hb.block k hk) rfl (fun b o hm _=> .inl hm) (fun b o hx=> ?_) ?_ rfl (fun b hbk=> ?_)
    ·
     rcases hx with hx|hx
     · exact JA
     · omega
    ·
     refine .inr ⟨w.heap.size,cap',zc.toList,by rw [List.length_append],by rw [List.length_append];exact hge,hle,by rw [List.length_append];simpa using hzs,fun o=> .inr rfl,arr.toList,?_,?_,?_⟩
     ·
      have hh:(w.drew.alloc (.cells arr e)).heap[w.heap.size]? =some (.cells arr e (0,0)):=heap_alloc_new w.drew _
      rw [hh]
     · rw [Gx,List.flatten_append];exact ((hT.st EF).app ((O_.st EF).hl hsz)).app (Lz _ _ _)
     ·
      intro c hc
      rw [Gx] at hc
      simp only [List.mem_append] at hc
      rcases hc with (hc|hc)|hc
      · grind
      · exact O_.2.1 c hc
      · exact hzo c hc
    ·
     have EE:some w.heap.size=some b:=hbk
     injection EE with e1
     subst e1
     exact ⟨by rw [hs1];omega,.inr (Nat.le_refl _)⟩
theorem Di {e:TypeId} {y:Operand} {sz bytes:Nat} {rows':List (List Pr)} (hg:o.guard=none) (hd:o.dst=some d) (hn:d<n) (ho:o.op= .call { callee:= .builtin .append,args:= #[x,y],argTypes:= #[t,t] }) (ht:P.underlying t=some (.slice e)) (hz:Al P e=some sz) (hby:CC P e=some bytes) (DD:BS P e=some zs) (hzl:zs.length=sz) (hone:zs.all (·.oneCell')=true) (hsz:0<sz) (hx:VL E x (Ao v p)) (hy:VL E y (slice sz rows')) (hl:∀r∈rows,r.length=sz) (hpos:0<rows'.length) (FH:rows.length+rows'.length≤maxLen) (hfit:(rows.length+rows'.length)*bytes≤140737488355328):D6 P M0 w0 S n j (SR.c (Bf e sz rows v)) ⟨d,Bf e sz (rows++rows')⟩ o E (lens (rows.length+rows'.length)):=by
 refine ⟨hg,fun M w a rs NO he hI hj=> ?_⟩
 have h1:a.eval x=v:=(hx.ev he B2).1
 have h2:=hy.ev he B2
 obtain ⟨v',w',M',hrun,h3,h4,h5⟩:=dF (ty:=o.type) ht hz hby DD hzl hone hsz hI hj hl h2 hpos FH hfit
 have C9:(execOp a.eval o).run P w= .ok (.value v') w':=by simp [execOp,ho,resolve,invoke,builtin,h1,hrun]
 rw [C9]
 refine ⟨M',h3,h4,?_⟩
 have:(SR.at_ (a.put o.dst v') ⟨d,Bf e sz (rows++rows')⟩)=Bf e sz (rows++rows') v':=by unfold SR.at_ Slot.val;dsimp only;rw [hd,B_ I7]
 rw [this];exact h5
theorem BG.dG {sz:Nat} {e:TypeId} (h:BG M0 w0 S rs M w) (hj:rs[j]? =some (Bf e sz rows v)) (hl:∀r∈rows,r.length=sz):
  ∃M',Ext M w M' w∧BG M0 w0 S (rs.set j (Bi e sz v)) M' w∧(slice sz rows).h M' w v:=by
 have hjl:j<rs.length:=by grind
 rcases (h.hold _ (List.mem_of_getElem? hj)).1 with ⟨rfl,rfl⟩|Yk
 · exact ⟨M,Ext.refl _ _,h.C0 hj rfl rfl QN,AH sz M w _ rfl⟩
 ·
  obtain ⟨b,cap,spare,rfl,hnc,hcm,hsp,TC⟩:=Yk
  have hC:=h.C0 (r':=AE true b e (rows.flatten++spare.map is)) hj rfl rfl TC
  obtain ⟨M',h1,h2,h3⟩:=BG.bB hC (List.getElem?_set_self hjl) hl hnc hcm (by rw [List.length_map];exact hsp)
  rw [List.set_set] at h2
  exact ⟨M',h1,h2,h3⟩
end
section
variable {P:Program} {L:Lg P} {n:Fm} {fz:Nat} {E:Env} {M0:Av} {w0:World} {S:Nat→Prop} {rs:List A7} {o:Oper} {ops:Array Oper} {r:List Oper}
def pO (P:Program) (f:FuncId) (args:List Pr) (res:Pr) (r:A7) (r':A7) (r2:A7):Prop:=Entry P f∧∀M0 w0 S rs M w vs,BG M0 w0 S (r::r2::rs) M w→HL M w args vs→
 Calls P f vs.toArray w fun e w'=>∃v M',e= .returned v∧res.h M' w' v∧Ext M w M' w'∧BG M0 w0 S (r'::r2::rs) M' w'
theorem pO.of {g : Func} {c : Code} {res : Pr} {R R' R2 : A7} (hf : P.funcs[f]? = some g) (hb : g.body = some c) (hname : (g.name == "runtime.NumGoroutine") = false) (hlen : ps.length ≤ g.ntmps) (h : ∀ M0 w0 S rs M1 w1, Tr (Td P) g.ntmps (Jl 0 ps) (Hp M0 w0 S (R :: As M1 w1 :: R2 :: rs)) c (bodyPost P g (Ni M0 w0 S (R2 :: rs) M1 w1 res (fun _ => R')))) : pO P f ps res R R' R2 := by
 refine ⟨⟨g,hf,hname,by rw [hb];rfl⟩,fun M0 w0 S rs M w vs hI hv=> ?_⟩
 refine calls_of_wp hf hb (h M0 w0 S rs M w _ _ ⟨M,?_,rfl,FK hv,?_⟩)
 ·
  have:=hv.length
  simp [this];omega
 · exact TY
end
abbrev J3 (k:IntKind):Pr:=Cp.ex fun i:Int=>is (.int k i)
theorem Dq (k:IntKind) (i:Int):Pr.le (is (.int k i)) (J3 k):=fun _ _ _ h=>⟨i,h⟩
section
variable {P:Program} {L:Lg P} {I:CU} {o:Oper} {E:Env}
theorem dH {op:BinOp} {u:TypeId} {y:Operand} {k:IntKind} (hop:(op== .xor||op== .or)=true) (ho:o.op= .binOp op t x y u) (hx:VL E x (J3 k)) (hy:VL E y (J3 k)):Ab P I o E (J3 k):=
 Ab.same fun M w a he _=>by
  obtain ⟨m,h1⟩:=hx.ev he At
  obtain ⟨n,h2⟩:=hy.ev he At
  have h1:a.eval x= .int k m:=h1
  have h2:a.eval y= .int k n:=h2
  cases op<;>simp at hop<;>exact ⟨_,by simp [execOp,ho,h1,h2,eqGuard,binOp,Op.intBits];rfl,_,rfl⟩
end
theorem JH {β:Type} {f:β→List Pr} {l:List β} {sz:Nat} (hf:∀x,(f x).length=sz) {i:Int} (h:i.toNat<l.length):((((l.map f).flatten++qs).drop (0+i.toNat*sz)).take sz)=f (l[i.toNat]'h):=by
 rw [Nat.zero_add];exact Yj hf (List.getElem?_eq_getElem h)
theorem HX {β:Type} {f:β→List Pr} {sz:Nat} (hf:∀x,(f x).length=sz) {l:List β} {i:Int} {x:β} (h:i.toNat<l.length):((l.map f).flatten++qs).take (0+i.toNat*sz)++f x++((l.map f).flatten++qs).drop (0+i.toNat*sz+sz)=((l.set i.toNat x).map f).flatten++qs:=by
 rw [Nat.zero_add];exact O9 hf h
theorem N2 {β:Type} {l:List β} {i j:Int} (hi:i.toNat<l.length) (hj:j.toNat<l.length):((l.set i.toNat (l[j.toNat]'hj)).set j.toNat (l[i.toNat]'hi)).Perm l:=List.set_set_perm hi hj
section
variable {P:Program} {L:Lg P} {n:Fm} {fz:Nat} {E:Env} {M0:Av} {w0:World} {S:Nat→Prop} {rs:List A7} {o:Oper} {β:Type} {b:Nat} {e:TypeId} {f:β→List Pr} {qs:List Pr} {Φ:List β→Prop}
instance (priority:=300) pP (b:Bool) (p:Prop) [h:F4 b false p]:F4 (!b) true p:=⟨fun e=>h.IB (by simpa using e)⟩
instance (priority:=300) pQ (b:Bool) (p:Prop) [h:F4 b true p]:F4 (!b) false p:=⟨fun e=>h.IB (by simpa using e)⟩
end
end Cp
namespace Cp
open Go.Sort
section
variable {β:Type} [Inhabited β] {c:β×β→Int} {st:List β} {a b i j:Int}
def l5 (c:β×β→Int) (x y:β):Bool:=decide (c (x,y)<0)
theorem gx (h:i.toNat<st.length):st.toArray[i.toNat]! =st[i.toNat]:=by simp [h]
theorem sw (hi:i.toNat<st.length) (hj:j.toNat<st.length):((st.set i.toNat (st[j.toNat]'hj)).set j.toNat (st[i.toNat]'hi)).toArray=swp st.toArray i.toNat j.toNat:=by
 unfold swp
 rw [gx hi,gx hj]
 simp [Array.setIfInBounds_def,hi,hj]
omit [Inhabited β] in
theorem pR {x y:β} (h:¬c (x,y)<0):l5 c x y=false:=decide_eq_false h
variable {hi F r:Int}
variable {lt:β→β→Bool} {a0 b0 m n:Nat} {l s s':Array β}
structure PS (lt:β→β→Bool) (a0 b0 a b:Nat) (l s:Array β):Prop where
 ha:a0≤a
 hab:a≤b
 hb:b≤b0
 hp:PermIn a0 b0 l s
 below:Below lt a b s
 out:∀i j,a0≤i→i<j→j<b0→(i<a∨b≤j)→lt s[j]! s[i]! =false
theorem PS.perm (h:PS lt a0 b0 m n l s) (hs:b0≤l.size) (hq:PermIn m n s s'):PS lt a0 b0 m n l s':=by
 have hsz:s.size=l.size:=h.hp.1
 have gF:n≤s.size:=by have:=h.hb;omega
 refine ⟨h.ha,h.hab,h.hb,permIn_trans _ _ _ _ _ h.hp (permIn_mono _ _ _ _ _ _ h.ha h.hb AA hq),Below.permA permIn_all gF h.below hq,fun i j h1 h2 h3 h4=> ?_⟩
 have hm:=h.hab
 by_cases hi:m≤i∧i<n
 ·
  have hj:n≤j:=by omega
  rw [hq.2.1 j (.inr hj)]
  exact permIn_all s s' m n (fun x=>lt s[j]! x=false) gF hq (fun k hk1 hk2=>h.out k j (by have:=h.ha;omega) AA h3 (.inr hj)) i hi.1 hi.2
 ·
  rw [hq.2.1 i AA]
  by_cases hj:m≤j∧j<n
  · exact permIn_all s s' m n (fun x=>lt x s[i]! =false) gF hq (fun k hk1 hk2=>h.out i k h1 AA (by have:=h.hb;omega) (.inl AA)) j hj.1 hj.2
  · rw [hq.2.1 j AA];exact h.out i j h1 h2 h3 h4
theorem PS.done (h:PS lt a0 b0 m n l s) (hs:SortedIn lt m n s):PermIn a0 b0 l s∧SortedIn lt a0 b0 s:=by
 refine ⟨h.hp,fun i j h1 h2 h3=> ?_⟩
 by_cases hh:i<m∨n≤j
 · exact h.out i j h1 h2 h3 hh
 · exact hs i j AA h2 AA
theorem PS.eq (hw:SWO lt) (h:PS lt a0 b0 m n l s) (hs:b0≤l.size) {pv:β} {k:Nat} (hm:0<m) (Te:lt s[m-1]! pv=false) (hk:m<k) (hkn:k≤n) (hq:PermIn m n s s') (h1:∀i,m≤i→i<k→lt pv s'[i]! =false) (h2:∀i,k≤i→i<n→lt pv s'[i]! =true):
  PS lt a0 b0 k n l s':=by
 have h':=h.perm hs hq
 have hle:∀j,m≤j→j<n→lt s'[j]! pv=false:=by
  intro j hj1 hj2
  by_cases hjk:k≤j
  · exact hw.asym (h2 j hjk hj2)
  ·
   have hb:=h'.below
   rcases hb with hb|hb
   · omega
   ·
    have hb:=hb j hj1 hj2
    rw [hq.2.1 (m-1) (.inl AA)] at hb
    exact hw.ntrans _ _ _ hb Te
 have key:∀i j,m≤i→i<k→m≤j→j<n→lt s'[j]! s'[i]! =false:=fun i j ha hb hc hd=>hw.ntrans _ _ _ (hle j hc hd) (h1 i ha hb)
 refine ⟨by have:=h.ha;omega,hkn,h.hb,h'.hp,.inr fun i hi1 hi2=>key (k-1) i AA AA AA hi2,fun i j g1 g2 g3 g4=> ?_⟩
 by_cases hh:i<m∨n≤j
 · exact h'.out i j g1 g2 g3 hh
 · exact key i j AA AA AA AA
structure Ym (lt:β→β→Bool) (m n k:Nat) (s:Array β):Prop where
 h1:m≤k
 h2:k<n
 lo:∀i,m≤i→i<k→lt s[i]! s[k]! =true
 up:∀i,k<i→i<n→lt s[i]! s[k]! =false
theorem PS.left (hw:SWO lt) {k:Nat} (h:PS lt a0 b0 m n l s) (hs:b0≤l.size) (hp:Ym lt m n k s) (hq:PermIn m k s s') (hso:SortedIn lt m k s'):PS lt a0 b0 (k+1) n l s':=by
 obtain ⟨h1,h2,lo,up⟩:=hp
 have hsz:s.size=l.size:=h.hp.1
 have hks:k≤s.size:=by have:=h.hb;omega
 have Rk:PermIn m n s s':=permIn_mono _ _ _ _ _ _ (Nat.le_refl _) AA (by have:=h.hb;omega) hq
 have h':=h.perm hs Rk
 have ek:s'[k]! =s[k]! :=hq.2.1 k (.inr (Nat.le_refl _))
 have lo':∀i,m≤i→i<k→lt s'[i]! s[k]! =true:=fun i g1 g2=>permIn_all s s' m k (fun x=>lt x s[k]! =true) hks hq lo i g1 g2
 have up':∀i,k<i→i<n→lt s'[i]! s[k]! =false:=fun i g1 g2=>by rw [hq.2.1 i (.inr AA)];exact up i g1 g2
 refine ⟨by have:=h.ha;omega,by omega,h.hb,h'.hp,.inr fun i g1 g2=> ?_,fun i j g1 g2 g3 g4=> ?_⟩
 · rw [show k+1-1=k by omega,ek];exact up' i AA g2
 ·
  by_cases hh:i<m∨n≤j
  · exact h'.out i j g1 g2 g3 hh
  ·
   rcases Nat.lt_trichotomy i k with hik|hik|hik
   ·
    rcases Nat.lt_trichotomy j k with hjk|hjk|hjk
    · exact hso i j AA g2 hjk
    · subst hjk;rw [ek];exact hw.asym (lo' i AA hik)
    · exact U9
   · subst hik;rw [ek];exact up' j g2 AA
   · omega
theorem PS.right (hw:SWO lt) {k:Nat} (h:PS lt a0 b0 m n l s) (hs:b0≤l.size) (hp:Ym lt m n k s) (hq:PermIn (k+1) n s s') (hso:SortedIn lt (k+1) n s'):PS lt a0 b0 m k l s':=by
 obtain ⟨h1,h2,lo,up⟩:=hp
 have hsz:s.size=l.size:=h.hp.1
 have gF:n≤s.size:=by have:=h.hb;omega
 have Rk:PermIn m n s s':=permIn_mono _ _ _ _ _ _ AA (Nat.le_refl _) gF hq
 have h':=h.perm hs Rk
 have ek:s'[k]! =s[k]! :=hq.2.1 k (.inl AA)
 have lo':∀i,m≤i→i<k→lt s'[i]! s[k]! =true:=fun i g1 g2=>by rw [hq.2.1 i (.inl AA)];exact lo i g1 g2
 have up':∀i,k<i→i<n→lt s'[i]! s[k]! =false:=fun i g1 g2=>permIn_all s s' (k+1) n (fun x=>lt x s[k]! =false) gF hq (fun i q1 q2=>up i AA q2) i AA g2
 refine ⟨h.ha,h1,by have:=h.hb;omega,h'.hp,?_,fun i j g1 g2 g3 g4=> ?_⟩
 ·
  rcases h'.below with hb|hb
  · exact .inl hb
  · exact .inr fun i q1 q2=>hb i q1 AA
 ·
  by_cases hh:i<m∨n≤j
  · exact h'.out i j g1 g2 g3 hh
  ·
   rcases Nat.lt_trichotomy i k with hik|hik|hik
   ·
    rcases Nat.lt_trichotomy j k with hjk|hjk|hjk
    · omega
    · subst hjk;rw [ek];exact hw.asym (lo' i AA hik)
    · exact U9
   · subst hik;rw [ek];exact up' j g2 AA
   · exact hso i j AA g2 AA
end
section
variable {β:Type} [Inhabited β] {c:β×β→Int} {st:List β}
def Adj (c:β×β→Int) (a b:Int) (l:List β):Prop:=∀k,a.toNat<k→k<b.toNat→l5 c l.toArray[k]! l.toArray[k-1]! =false
theorem Adj.go {a i k:Int} (h:Adj c a i st) (h0:0≤a) (ha:a<i) (hk:k=i-1) (hi:i.toNat<st.length) (hk':k.toNat<st.length) (hc:0≤c (st[i.toNat]'hi,st[k.toNat]'hk')):Adj c a (i+1) st:=fun m h1 h2=>by
 rcases Nat.lt_or_ge m i.toNat with hm|hm
 · exact h m h1 hm
 ·
  have e:m=i.toNat:=by omega
  subst e
  rw [show i.toNat-1=k.toNat by omega,gx hi,gx hk'];exact pR AA
end
section
variable {β:Type} [Inhabited β]
def ID (a b:Int) (l st:List β):Prop:=PermIn a.toNat b.toNat l.toArray st.toArray
def ga (c:β×β→Int) (a b:Int) (l st:List β):Prop:=PermIn a.toNat b.toNat l.toArray st.toArray∧SortedIn (l5 c) a.toNat b.toNat st.toArray
theorem ID.len {a b:Int} {l st:List β} (h:ID a b l st):st.length=l.length:=by have:=h.1;simpa using this
theorem ga.len {c:β×β→Int} {a b:Int} {l st:List β} (h:ga c a b l st):st.length=l.length:=by have:=h.1.1;simpa using this
def gb (c:β×β→Int) (hi first lo:Int) (l st:List β):Prop:=st.length=l.length∧st.toArray=siftDown (l5 c) hi.toNat first.toNat lo.toNat l.toArray
theorem gb.len {c:β×β→Int} {hi first lo:Int} {l st:List β} (h:gb c hi first lo l st):st.length=l.length:=h.1
abbrev PE (c:β×β→Int) (a b pv:Int) (l:List β):Nat×Array β:=partitionEqual (l5 c) l.toArray a.toNat b.toNat pv.toNat
abbrev PA (c:β×β→Int) (a b pv:Int) (l:List β):Nat×Bool×Array β:=partition (l5 c) l.toArray a.toNat b.toNat pv.toNat
def gh (c:β×β→Int) (a b pv:Int) (l st:List β):Prop:=st.length=l.length∧st.toArray=(PE c a b pv l).2
def gj (c:β×β→Int) (a b pv:Int) (l st:List β):Prop:=st.length=l.length∧st.toArray=(PA c a b pv l).2.2
theorem gh.len {c:β×β→Int} {a b pv:Int} {l st:List β} (h:gh c a b pv l st):st.length=l.length:=h.1
theorem gj.len {c:β×β→Int} {a b pv:Int} {l st:List β} (h:gj c a b pv l st):st.length=l.length:=h.1
theorem ID.refl (a b:Int) (l:List β):ID a b l l:=permIn_refl _ _ _
theorem ID.swap {a b i j:Int} {l st:List β} (h:ID a b l st) (hi:i.toNat<st.length) (hj:j.toNat<st.length) (h1:a.toNat≤i.toNat) (h2:i.toNat<b.toNat) (h3:a.toNat≤j.toNat) (h4:j.toNat<b.toNat) (hb:b.toNat≤l.length):
  ID a b l ((st.set i.toNat (st[j.toNat]'hj)).set j.toNat (st[i.toNat]'hi)):=by
 unfold ID
 rw [sw hi hj]
 exact permIn_trans _ _ _ _ _ h (swp_permIn _ _ _ _ _ h1 h2 h3 h4 (by have:=h.len;simp;omega))
theorem ID.trans {a b:Int} {l m st:List β} (h:ID a b l m) (k:ID a b m st):ID a b l st:=permIn_trans _ _ _ _ _ h k
end
section
open Go
variable {P:Program} {L:Lg P} {n:Fm} {fz:Nat} {E:Env} {M0:Av} {w0:World} {S:Nat→Prop} {rs:List A7} {new:Bool} {b:Nat} {T:TypeId} {ps:List Pr}
theorem St.jg (j:Nat) (qs:List Pr) (hj:rs[j]? =some (AE new b T ps)) (hl:Mi ps qs) {a:Act} {w:World} (h:St n E (Hp M0 w0 S rs) a w):St n E (Hp M0 w0 S (rs.set j (AE new b T qs))) a w:=by
 obtain ⟨M,h1,h2,h3,h4⟩:=h
 have h4:BG M0 w0 S rs M w:=h4
 obtain ⟨hM,cs,hb,hc,ho⟩:=(h4.hold _ (List.mem_of_getElem? hj)).1
 exact ⟨M,h1,h2,h3,h4.C0 hj rfl rfl ⟨hM,cs,hb,hl.hl hc,ho⟩⟩
theorem Tr.jg {Q:Exit→Act→World→Prop} {c:Code} (j:Nat) (qs:List Pr) (hj:rs[j]? =some (AE new b T ps)) (hl:Mi ps qs) (k:Tr L n E (Hp M0 w0 S (rs.set j (AE new b T qs))) c Q):Tr L n E (Hp M0 w0 S rs) c Q:=Tr.conv (fun _ _ hs=>hs.jg j qs hj hl) k
end
end Cp
namespace Cp
open Go Go.RowKit Go.Great
variable {a:Act} {ops:Array Oper} {ts:Array TypeId} {M:Av} {new:Bool} {f:FuncId} {rows:List (List Pr)} {r:List Oper} {ps:List Pr} {sp zs:List Value} {b cap d i j k m:Nat} {x:Operand} {p:Pr} {T t:TypeId} {v:Value} {w:World}
section
variable {P:Program} {L:Lg P} {n:Fm} {fz:Nat} {E:Env} {I:CU} {Q:Exit→Act→World→Prop}
theorem Tr.Mn {α0 α1:Type} (K:Env) (hK:C4 E K) (F:α0→α1→Value→Env) (Ii:α0→α1→Value→CU) (C:α0→α1→Prop) {x y:Code} (h:Tr L n E I x (Exit.then (fun a w=>∃x0 x1 v0,C x0 x1∧St n (F x0 x1 v0++K) (Ii x0 x1 v0) a w) Q))
  (k:∀x0 x1 v0,C x0 x1→Tr L n (F x0 x1 v0++K) (Ii x0 x1 v0) y Q):Tr L n E I (.seq x y) Q:=
 Tr.cut (fun y:α0×α1×Value=>F y.1 y.2.1 y.2.2++K) (fun y=>Ii y.1 y.2.1 y.2.2) (fun y=>C y.1 y.2.1) (Tr.post h fun e a w h=>by cases e<;>first|exact h|(obtain ⟨x0,x1,v0,h1,h2⟩:=h;exact ⟨(x0,x1,v0),h1,h2⟩)) fun y hy=>k y.1 y.2.1 y.2.2 hy
end
section
variable {P:Program} {L:Lg P} {n:Fm} {fz:Nat} {E:Env} {M0:Av} {w0:World} {S:Nat→Prop} {rs:List A7} {β:Type} {e:TypeId} {sz:Nat} {f:β→List Pr} {Φ:List β→Prop} {v:Value}
theorem St.Yn (j d:Nat) (hj:rs[j]? =some (Bf e sz rows v)) (hd:E.lookup d=some (Ao v p)) (hf:∀r∈rows,r.length=sz) (hs:St n E (Hp M0 w0 S rs) a w):
  St n ((d,Ao v (slice sz rows))::E) (Hp M0 w0 S (rs.set j (Bi e sz v))) a w:=by
 obtain ⟨M,h1,h2,h3,h4⟩:=hs
 have h4:BG M0 w0 S rs M w:=h4
 obtain ⟨M',h6,h7,h8⟩:=BG.dG h4 hj hf
 refine ⟨M',h1,h2,fun s q hq=> ?_,h7⟩
 simp only [List.lookup] at hq
 split at hq
 ·
  rename_i e1
  have:s=d:=by simpa using e1
  subst this
  simp only [Option.some.injEq] at hq
  subst hq
  have h9:=(h3 _ _ hd).1
  exact ⟨h9,by rw [h9];exact h8⟩
 · exact q.st _ _ _ _ _ h6 (h3 s q hq)
theorem Tr.Yn {Q:Exit→Act→World→Prop} {c:Code} (j d:Nat) (hj:rs[j]? =some (Bf e sz rows v)) (hd:E.lookup d=some (Ao v p)) (hf:∀r∈rows,r.length=sz) (k:Tr L n ((d,Ao v (slice sz rows))::E) (Hp M0 w0 S (rs.set j (Bi e sz v))) c Q):Tr L n E (Hp M0 w0 S rs) c Q:=
 fun a w hs=>k a w (hs.Yn j d hj hd hf)
theorem Km (h:rows=[]):Pr.le (is (.slice none 0 0)) (Ao (.slice none 0 0) (lens rows.length)):=by
 subst h;exact fun _ _ _ hv=>⟨hv,⟨none,0,by rw [hv];rfl⟩⟩
theorem Cr {v:Value} {a:Nat} (h:a=b):Pr.le (Ao v (lens a)) (Ao v (lens b)):=by subst h;exact Pr.le_refl _
end
section
variable {P:Program} {L:Lg P} {n:Fm} {fz:Nat} {E:Env} {M0:Av} {w0:World} {S:Nat→Prop} {rs:List A7} {o:Oper}
end
section
variable {P:Program} {L:Lg P} {n:Fm} {fz:Nat} {E:Env} {M0:Av} {w0:World} {S:Nat→Prop} {rs:List A7} {ε:Type} {res:ε→List A7}
def l6 (res:ε→List A7) (es:List ε):List A7:=es.flatMap res
theorem Yo:∀{es:List ε} {k:Nat} {x:ε},es[k]? =some x→(l6 res es).Perm (res x++l6 res (es.eraseIdx k))
 |[],_,_,h=>by simp at h
 |a::es,0,x,h=>by
  simp only [List.getElem?_cons_zero,Option.some.injEq] at h
  subst h
  exact List.Perm.refl _
 |a::es,k+1,x,h=>by
  have ih:=Yo (es:=es) (k:=k) (x:=x) FF
  show (res a++l6 res es).Perm (res x++(res a++l6 res (es.eraseIdx k)))
  refine (ih.append_left (res a)).trans ?_
  rw [←List.append_assoc,←List.append_assoc]
  exact List.perm_append_comm.append_right _
theorem Tw {a b c:List A7} (h:b.Perm c):(a++b).Perm (a++c):=h.append_left a
theorem St.perm {rs':List A7} (hp:rs.Perm rs') (h:St n E (Hp M0 w0 S rs) a w):St n E (Hp M0 w0 S rs') a w:=by
 obtain ⟨M,h1,h2,h3,h4⟩:=h
 exact ⟨M,h1,h2,h3,BG.perm hp h4⟩
theorem Tr.focus {Q:Exit→Act→World→Prop} {c:Code} (gl:List A7) {es:List ε} {x:ε} (hx:es[k]? =some x) (jh:rs=gl++l6 res es) (kk:Tr L n E (Hp M0 w0 S (res x++(gl++l6 res (es.eraseIdx k)))) c Q):Tr L n E (Hp M0 w0 S rs) c Q:=
 Tr.conv (fun _ _ hs=>hs.perm (by
  subst jh
  refine (Tw (Yo hx)).trans ?_
  rw [←List.append_assoc,←List.append_assoc]
  exact List.perm_append_comm.append_right _)) kk
theorem Tr.pS {Q:Exit→Act→World→Prop} {c:Code} {e:TypeId} {sz:Nat} (j:Nat) (hj:rs[j]? =some (Bf e sz rows v)) (hne:rows≠[]) (k:∀(b cap:Nat) (sp:List Value),v= .slice (some ⟨b,0,none⟩) rows.length cap→rows.length≤cap→cap≤maxLen→sp.length=(cap-rows.length)*sz→Tr L n E (Hp M0 w0 S (rs.set j (AE true b e (rows.flatten++sp.map is)))) c Q):Tr L n E (Hp M0 w0 S rs) c Q:=by
 intro a w hs
 obtain ⟨M,h1,h2,h3,h4⟩:=hs
 have h4:BG M0 w0 S rs M w:=h4
 rcases (h4.hold _ (List.mem_of_getElem? hj)).1 with ⟨h5,_⟩|⟨b,cap,sp,rfl,h5,h6,h7,h8⟩
 · exact absurd h5 hne
 · exact k b cap sp rfl h5 h6 h7 a w ⟨M,h1,h2,h3,h4.C0 hj rfl rfl h8⟩
theorem St.J4 {e:TypeId} {sz:Nat} (j:Nat) (hj:rs[j]? =some (AE true b e (rows.flatten++sp.map is))) (hm:rows.length=m) (h1:m≤cap) (h2:cap≤maxLen) (h3:sp.length=(cap-m)*sz) (h:St n E (Hp M0 w0 S rs) a w):St n E (Hp M0 w0 S (rs.set j (Bf e sz rows (.slice (some ⟨b,0,none⟩) m cap)))) a w:=by
 subst hm
 obtain ⟨M,g1,g2,g3,g4⟩:=h
 have g4:BG M0 w0 S rs M w:=g4
 exact ⟨M,g1,g2,g3,g4.C0 hj rfl rfl (.inr ⟨b,cap,sp,rfl,h1,h2,h3,(g4.hold _ (List.mem_of_getElem? hj)).1⟩)⟩
theorem Fin.J4 {Q:Exit→Act→World→Prop} {x:Exit} {e:TypeId} {sz:Nat} (j:Nat) (hj:rs[j]? =some (AE true b e (rows.flatten++sp.map is))) (hm:rows.length=m) (h1:m≤cap) (h2:cap≤maxLen) (h3:sp.length=(cap-m)*sz) (k:Fin n E (Hp M0 w0 S (rs.set j (Bf e sz rows (.slice (some ⟨b,0,none⟩) m cap)))) Q x):Fin n E (Hp M0 w0 S rs) Q x:=Fin.conv (fun _ _ hs=>hs.J4 j hj hm h1 h2 h3) k
end
section
variable {P:Program} {L:Lg P} {n:Fm} {fz:Nat} {E:Env} {M0:Av} {w0:World} {S:Nat→Prop} {rs:List A7} {o:Oper}
theorem Jb {dT sT ty e:TypeId} {g off dLen dCap sLen sCap sz:Nat} {a:Addr} {cur:Array Value} {cs:List Value} (hu:P.underlying dT=some (.slice e)) (hz:Al P e=some sz) (hg:w.heap[g]? =some (.cells cur t (0,0))) (hm:m=Nat.min sLen dLen) (hn:cs.length=m*sz) (hsrc:∀j v,cs[j]? =some v→w.cell? (a.add j)=some v) (hfit:off+cs.length≤cur.size) (h1:∀v∈cs,v.oneCell'=true):
  (Builtin.copy_ #[dT,sT] ty #[.slice (some ⟨g,off,none⟩) dLen dCap,.slice (some a) sLen sCap]).run P w= .ok (goInt m) (w.setRow g (cur.toList.take off++cs++cur.toList.drop (off+cs.length)).toArray):=by
 have hl:=run_loadCells_list (P:=P) w a cs hsrc
 have hst:=run_storeCells_at P g off t cs 0 cur w hg (by simpa using hfit) h1
 unfold Al at hz
 cases hq:P.info? e with
 |none=>rw [hq] at hz;cases hz
 |some i=>
  have hi:i.size=sz:=by simpa [hq] using hz
  rw [hn] at hl
  simp [Builtin.copy_,run_underlying hu,Builtin.lenOf,Builtin.firstCells,Go.sizeOf,typeInfo,hq,hi,←hm,hl,hst]
theorem G9 {dT sT e:TypeId} {y:Operand} {off sz:Nat} {ps':List Pr} (hg:o.guard=none) (hd:o.dst=some d) (ho:o.op= .call { callee:= .builtin .copy,args:= #[x,y],argTypes:= #[dT,sT] }) (ht:P.underlying dT=some (.slice e)) (hz:Al P e=some sz) (hsz:0<sz) (hx:VL E x (is (.slice (some ⟨b,off,none⟩) m cap))) (hy:VL E y (slice sz rows)) (hpos:0<rows.length) (hm:rows.length≤m) (hl:off+rows.length*sz≤ps.length) (hps:ps.take off++rows.flatten++ps.drop (off+rows.length*sz)=ps'):D6 P M0 w0 S n j (SR.c (AE new b T ps)) (SR.c (AE new b T ps')) o E (int (rows.length:Nat)):=by
 refine ⟨hg,fun M w a rs NO he hI hj=> ?_⟩
 have h1:a.eval x=_:=hx.ev he B2
 have h2:=hy.ev he B2
 obtain ⟨⟨_,cs,h4,h5,h6⟩,_⟩:=hI.hold _ (List.mem_of_getElem? hj)
 have a_:=h5.length
 have h2':=h2
 obtain ⟨A',c',hv,bV,Qa,Xb,Ef⟩:=h2
 obtain ⟨LR,rfl⟩:∃LR,A'=some LR:=by
  obtain ⟨_,b,hb,_⟩:=Ef 0 _ (List.getElem?_eq_getElem hpos)
  exact ⟨b,hb⟩
 rw [hv] at h2'
 obtain ⟨news,hfl,hcell⟩:=Ee hsz h2'
 have N1:=hfl.1
 have hrun:=Jb (P:=P) (w:=w) (sT:=sT) (ty:=o.type) (g:=b) (off:=off) (dLen:=m) (dCap:=cap) (sLen:=rows.length) (sCap:=c') (m:=rows.length) (a:=LR) (cur:=cs.toArray) (t:=T) (cs:=news) ht hz h4 (Nat.min_eq_left hm).symm N1 (fun k u hk=>(hcell k u hk).1) (by simp [N1];omega) hfl.2.1
 have C9:(execOp a.eval o).run P w= .ok (.value (goInt rows.length)) (w.setRow b (cs.take off++news++cs.drop (off+news.length)).toArray):=by
  simp [execOp,ho,h1,hv,resolve,invoke,builtin,hrun]
 rw [C9]
 obtain ⟨h7, h8⟩ := BG.write (qs := ps') (cs := cs.take off ++ news ++ cs.drop (off + news.length)) hI hj (by rw [← hps, N1]; exact ((h5.take off).app (hfl.hl hsz)).app (h5.drop _))
  (fun c hc=>by
   simp only [List.mem_append] at hc
   rcases hc with (hc|hc)|hc
   · exact KU
   · exact hfl.2.1 c hc
   · exact h6 c (List.mem_of_mem_drop hc))
 exact ⟨M,rfl,h8,h7⟩
theorem SB {dT sT e:TypeId} {y:Operand} {off off2 dl Ng sz:Nat} {ps':List Pr} (hg:o.guard=none) (hd:o.dst=some d) (ho:o.op= .call { callee:= .builtin .copy,args:= #[x,y],argTypes:= #[dT,sT] }) (ht:P.underlying dT=some (.slice e)) (hz:Al P e=some sz) (hx:VL E x (is (.slice (some ⟨b,off,none⟩) dl cap))) {sl:Nat} (hy:VL E y (is (.slice (some ⟨b,off2,none⟩) sl Ng))) (hm:m=Nat.min sl dl) (hl:off+m*sz≤ps.length) (bC:off2+m*sz≤ps.length) (hps:ps.take off++(ps.drop off2).take (m*sz)++ps.drop (off+m*sz)=ps'):D6 P M0 w0 S n j (SR.c (AE new b T ps)) (SR.c (AE new b T ps')) o E (int (m:Nat)):=by
 refine ⟨hg,fun M w a rs NO he hI hj=> ?_⟩
 have h1:a.eval x=_:=hx.ev he B2
 have h2:a.eval y=_:=hy.ev he B2
 obtain ⟨⟨_,cs,h4,h5,h6⟩,_⟩:=hI.hold _ (List.mem_of_getElem? hj)
 have a_:=h5.length
 have N1:((cs.drop off2).take (m*sz)).length=m*sz:=by rw [List.length_take,List.length_drop];omega
 have hrun:=Jb (P:=P) (w:=w) (sT:=sT) (ty:=o.type) (g:=b) (off:=off) (dLen:=dl) (dCap:=cap) (sLen:=sl) (sCap:=Ng) (m:=m) (a:=⟨b,off2,none⟩) (cur:=cs.toArray) (t:=T) (cs:=(cs.drop off2).take (m*sz)) ht hz h4 hm N1 (fun k u hk=>by
   rw [Ce]
   rw [List.getElem?_take] at hk
   split at hk
   · rw [List.getElem?_drop] at hk;simp [World.cell?,h4,hk]
   · cases hk) (by simp [N1];omega) (fun v hv=>h6 v (List.mem_of_mem_drop (List.mem_of_mem_take hv)))
 have C9:(execOp a.eval o).run P w= .ok (.value (goInt m)) (w.setRow b (cs.take off++(cs.drop off2).take (m*sz)++cs.drop (off+((cs.drop off2).take (m*sz)).length)).toArray):=by
  simp [execOp,ho,h1,h2,resolve,invoke,builtin,hrun]
 rw [C9]
 obtain ⟨h7, h8⟩ := BG.write (qs := ps') (cs := cs.take off ++ (cs.drop off2).take (m * sz) ++ cs.drop (off + ((cs.drop off2).take (m * sz)).length)) hI hj (by rw [← hps, N1]; exact ((h5.take off).app ((h5.drop off2).take _)).app (h5.drop _))
  (fun c hc=>by
   simp only [List.mem_append] at hc
   rcases hc with (hc|hc)|hc
   · exact KU
   · exact h6 c (List.mem_of_mem_drop (List.mem_of_mem_take hc))
   · exact h6 c (List.mem_of_mem_drop hc))
 exact ⟨M,rfl,h8,h7⟩
theorem LY {tS tR e:TypeId} (ht:P.underlying tS=some (.slice e)) {size:Nat} (hz:∀w,(Go.sizeOf e).run P w= .ok size w) {a b:Addr} {la ca lb cb:Nat} (hne:a.block≠b.block) {tA tB:TypeId} {kA kB:Nat} (hsa:w.shape? a.block=some (tA,kA+1)) (hsb:w.shape? b.block=some (tB,kB+1)) (hfb:∀c:Addr,c.block=b.block→w.frozen? c=false):
  (Extern.SlicesOverlaps.overlaps #[tS,tS] #[tR] #[.slice (some a) la ca,.slice (some b) lb cb]).run P w= .ok (.bool false) w:=by
 have hnb:(a.block !=b.block)=true:=by simpa using hne
 have u6:(a.block==b.block)=false:=by simpa using hne
 have hf1:=hfb b rfl
 have Oh:=hfb { block:=b.block,off:=kB+1 } rfl
 change Sem.run P (α := Value) (do
  let some t := (#[tS, tS] : Array TypeId)[0]? | stuck "slices.overlaps: no parameter types"
  let .slice elem ← underlying t | stuck "slices.overlaps: slice type expected"
  let size ←sizeOf elem
  match (some a:Option Addr),(some b:Option Addr) with
  |some a,some b=>
   if la=0∨lb=0∨size=0 then pure (Value.bool false)
   else if a.block !=b.block&&(←frozen a)&&(←frozen b) then unsupported .addressObserved
   else do
    if a.block != b.block then do
     noView a;noView b
     if ← mayBeOne a b then return Value.bool ((← choose (.extern "sameAddr.stringBytes" 2)) == 1)
    pure (Value.bool (a.block==b.block&&a.off<b.off+lb*size&&b.off<a.off+la*size))
  |_,_=>pure (Value.bool false)) w=_
 by_cases h0:la=0∨lb=0∨size=0
 · simp [run_underlying ht,hz,h0]
 ·
  cases hfa:w.frozen? a<;>cases u7:w.frozen? { block:=a.block,off:=kA+1 }<;>
   simp [run_underlying ht,hz,h0,hnb,u6,frozen,noView,viewAt,mayBeOne,stringish,shape,Sem.run,hsa,hsb,hfa,u7,hf1,Oh]
theorem Tx {a:Addr} (h:w.cell? a=some v):∃t k,w.shape? a.block=some (t,k+1):=by
 unfold World.cell? at h
 unfold World.shape?
 split at h
 ·
  rename_i c t mk hh
  have hc:c[a.off]? =some v:=by
   split at h
   · cases h
   · exact h
  have:a.off<c.size:=by
   rcases Nat.lt_or_ge a.off c.size with h'|h'
   · exact h'
   · rw [Array.getElem?_eq_none h'] at hc;cases hc
  exact ⟨t,c.size-1,by show some (t,c.size)=_;congr 2;omega⟩
 · cases h
theorem L8 {fn : Func} {y : Operand} {tS tR e : TypeId} {off sz : Nat} (ho : o.op = .call { callee := .value (.func f), args := #[x, y], argTypes := ts }) (hf : P.funcs[f]? = some fn) (hname : (fn.name == "runtime.NumGoroutine") = false) (hb : fn.body.isNone = true) (hn : Extern.findNext fn = none) (hex : Extern.find fn = some (Extern.SlicesOverlaps.overlaps #[tS, tS] #[tR])) (ht : P.underlying tS = some (.slice e)) (hz : Al P e = some sz) (hsz : 0 < sz) (hx : VL E x (slice sz rows)) (hpos : 0 < rows.length) (hy : VL E y (is (.slice (some ⟨b, off, none⟩) m cap))) (hps : 0 < ps.length) :
  Jm P M0 w0 S j (SR.c (AE new b T ps)) o E (bool false):=by
 intro M w a rs he hI hj
 have h1:=hx.ev he B2
 have h2:a.eval y=_:=hy.ev he B2
 obtain ⟨⟨hM,cs,h4,h5,h6⟩,_⟩:=hI.hold _ (List.mem_of_getElem? hj)
 have a_:=h5.length
 obtain ⟨A',c',hv,bV,Qa,Xb,Ef⟩:=h1
 obtain ⟨hlen,LR,rfl,hrow⟩:=Ef 0 _ (List.getElem?_eq_getElem hpos)
 obtain ⟨p0,nV⟩:∃p0,rows[0][0]? =some p0:=⟨_,List.getElem?_eq_getElem (by rw [hlen];exact hsz)⟩
 obtain ⟨u,hu,hnm,_⟩:=hrow 0 p0 nV
 obtain ⟨tA,kA,hsa⟩:=Tx hu
 rw [FI] at hsa
 have hne:LR.block≠b:=fun e1=>hnm (by rw [e1];exact hM _)
 have hsb:w.shape? b=some (T,(cs.length-1)+1):=by unfold World.shape?;rw [h4];show some (T,cs.toArray.size)=_;congr 2;simp;omega
 have hfb:∀c:Addr,c.block=b→w.frozen? c=false:=fun c hc=>by unfold World.frozen?;rw [hc,h4];simp
 have hzr:∀w,(Go.sizeOf e).run P w= .ok sz w:=fun w=>Bg hz w
 have hov:=LY (P:=P) (w:=w) (tR:=tR) ht hzr (a:=LR) (b:=⟨b,off,none⟩) (la:=rows.length) (ca:=c') (lb:=m) (cb:=cap) hne hsa hsb hfb
 have h3:a.eval (.func f)= .func (.func f) #[] #[]:=rfl
 have hrun:(execOp a.eval o).run P w=(callFunc f #[a.eval x,a.eval y]).run P w:=by simp [execOp,ho,resolve,Deferred.ofValue,invoke,h3]
 rw [hrun,hv,h2,run_callFunc_extern hf hname hb hn hex,hov]
 exact ⟨rfl,Below.refl _ _⟩
def dI (e:TypeId) (sz m:Nat) (ps:List Pr) (v:Value):A7 where
 blk:=match v with| .slice (some a) _ _=>some a.block|_=>none
 new:=true
 h M w:=∃(b cap:Nat) (sp:List Value),v= .slice (some ⟨b,0,none⟩) m cap∧m≤cap∧cap≤maxLen∧ps.length+sp.length=cap*sz∧(AE true b e (ps++sp.map is)).h M w
 st M w M' w' he hk h:=by
  obtain ⟨b,cap,sp,rfl,h1,h2,h3,h4⟩:=h
  exact ⟨b,cap,sp,rfl,h1,h2,h3,(AE true b e (ps++sp.map is)).st M w M' w' he hk h4⟩
theorem WM {tn ty e:TypeId} {sz bytes:Nat} {j2:Nat} {kn:IntKind} (ht:P.underlying t=some (.slice e)) (htn:P.underlying tn=some (.int kn)) (hz:Al P e=some sz) (hby:CC P e=some bytes) (DD:BS P e=some zs) (hzl:zs.length=sz) (hone:zs.all (·.oneCell')=true) (hsz:0<sz) (h:BG M0 w0 S rs M w) (hj:rs[j]? =some BW) (hj2:rs[j2]? =some (AE true b T ps)) (FT:i*sz≤ps.length) (hk:0<k) (hg:cap<i+k) (FH:i+k≤maxLen) (hfit:(i+k)*bytes≤140737488355328):
  ∃v' w' M',(Builtin.append_ #[t,tn] ty #[.slice (some ⟨b,0,none⟩) i cap,.int .i64 (k:Nat)]).run P w= .ok v' w'∧(lens (i+k)).h M' w' v'∧Ext M w M' w'∧BG M0 w0 S (rs.set j (dI e sz (i+k) (ps.take (i*sz)) v')) M' w':=by
 obtain ⟨⟨_,cs0,g4,g5,g6⟩,_⟩:=h.hold _ (List.mem_of_getElem? hj2)
 have g5l:=g5.length
 unfold Al at hz
 unfold CC at hby
 unfold BS at DD
 cases hi:P.info? e with
 |none=>rw [hi] at hz;cases hz
 |some ii=>
  rw [hi] at hz hby DD
  simp only [Option.map_some,Option.some.injEq,Option.map_eq_some_iff] at hz hby DD
  obtain ⟨z,Re,DD⟩:=DD
  have Od:z.cells.size=sz:=by rw [←hzl,←DD];simp
  have hol:(cs0.take (i*sz)).length=i*sz:=by rw [List.length_take];omega
  have hold:(Builtin.firstCells ii.size i (.slice (some ⟨b,0,none⟩) i cap)).run P w.drew= .ok (cs0.take (i*sz)).toArray w.drew:=by
   have:=run_loadCells_list (P:=P) w.drew ⟨b,0,none⟩ (cs0.take (i*sz)) (fun q u hq=>by
    rw [Ce]
    rw [List.getElem?_take] at hq
    split at hq
    ·
     have hh:w.drew.heap[b]? =some (.cells cs0.toArray T (0,0)):=g4
     simp [World.cell?,hh,hq]
    · cases hq)
   rw [hol] at this
   simp only [Builtin.firstCells,hz]
   rw [Nat.mul_comm] at this ⊢
   first|exact this|(simp;exact this)
  have hrun:=Lib.run_append_grow_zeros (P:=P) w t tn ty e ii z .i64 kn ht htn hi Re (some ⟨b,0,none⟩) i cap (cs0.take (i*sz)) hold k hk (by rw [hz];exact hsz) hg MX (by rw [hby];have:=Nat.mul_le_mul_right bytes (show k≤i+k by omega);omega) (by rw [hby];exact growslice_fits hg hfit)
  generalize hcap:grownCap w (i+k) cap e=cap' at hrun
  have hge:i+k≤cap':=by rw [←hcap];exact grownCap_ge _ _ _ _
  have hle:cap'≤maxLen:=by rw [←hcap];exact grownCap_le_maxLen _ _ _ _ FH
  generalize pT:Builtin.zeroCells z.cells k=z1 at hrun
  generalize pU:Builtin.zeroCells z.cells (cap'-(i+k))=z2 at hrun
  have JD:z1.size=k*sz:=by rw [←pT,size_zeroCells,Od]
  have YA:z2.size=(cap'-(i+k))*sz:=by rw [←pU,size_zeroCells,Od]
  have ho1:∀c∈z1.toList,c.oneCell'=true:=by rw [←pT];exact Dh DD hone
  have ho2:∀c∈z2.toList,c.oneCell'=true:=by rw [←pU];exact Dh DD hone
  generalize hcs:((cs0.take (i*sz)).toArray++z1++z2)=cs at hrun
  have pV:cs.toList=cs0.take (i*sz)++(z1.toList++z2.toList):=by rw [←hcs];simp
  have Yl:∀c∈cs.toList,c.oneCell'=true:=by
   intro c hc
   rw [pV] at hc
   simp only [List.mem_append] at hc
   rcases hc with hc|hc|hc
   · exact g6 c (List.mem_of_mem_take hc)
   · exact ho1 c hc
   · exact ho2 c hc
  have hb:Below w.heap.size w (w.drew.alloc (.cells cs e)):=((Below.refl _ _).drew).alloc (Nat.le_refl _) _
  have h2:=Ext.below (M:=M) hb
  have EF:Ext M w (fun b o=>M b o∨b=w.heap.size) (w.drew.alloc (.cells cs e)):=by
   refine ⟨h2.size,fun a v hc hm=>⟨fun hx=> ?_,(h2.keep a v hc hm).2⟩,fun b o ho hp hm=>⟨fun hx=> ?_,(h2.obj b o ho hp hm).2⟩⟩
   ·
    rcases hx with hx|hx
    · exact hm hx
    · exact ES
   ·
    rcases hx with hx|hx
    · exact hm hx
    · subst hx;simp at ho
  have hs1:(w.drew.alloc (.cells cs e)).heap.size=w.heap.size+1:=by simp
  refine ⟨_,_,fun b o=>M b o∨b=w.heap.size,hrun,⟨_,_,rfl⟩,EF,?_⟩
  refine h.replace hj EF hb.os hb.tape hb.output (fun k hk _=>hb.block k hk) rfl (fun b o hm _=> .inl hm) (fun b o hx=> ?_) ?_ rfl (fun b hbk=> ?_)
  ·
   rcases hx with hx|hx
   · exact JA
   · omega
  ·
   refine ⟨w.heap.size,cap',z1.toList++z2.toList,rfl,hge,hle,?_,fun o=> .inr rfl,cs.toList,?_,?_,Yl⟩
   · rw [List.length_take,Nat.min_eq_left FT,List.length_append,Array.length_toList,Array.length_toList,JD,YA,←Nat.add_mul,←Nat.add_mul];congr 1;omega
   ·
    have hh:(w.drew.alloc (.cells cs e)).heap[w.heap.size]? =some (.cells cs e (0,0)):=heap_alloc_new w.drew _
    rw [hh]
   · rw [pV];exact ((g5.take _).st EF).app (Lz _ _ _)
  ·
   have EE:some w.heap.size=some b:=hbk
   injection EE with e1
   subst e1
   exact ⟨by rw [hs1];omega,.inr (Nat.le_refl _)⟩
theorem TO.gm {Q:Exit→Act→World→Prop} {tn e:TypeId} {y:Operand} (j j2:Nat) {sz bytes:Nat} {kk:Int} {kn:IntKind} (hj:rs[j]? =some BW) (hj2:rs[j2]? =some (AE true b T ps)) (hg:o.guard=none) (hd:o.dst=some d) (hn:d<n) (ho:o.op= .call { callee:= .builtin .append,args:= #[x,y],argTypes:= #[t,tn] }) (ht:P.underlying t=some (.slice e)) (htn:P.underlying tn=some (.int kn)) (hz:Al P e=some sz) (hby:CC P e=some bytes) (DD:BS P e=some zs) (hzl:zs.length=sz) (hone:zs.all (·.oneCell')=true) (hsz:0<sz) (hx:VL E x (is (.slice (some ⟨b,0,none⟩) i cap))) (hy:VL E y (int kk)) (hkk:kk=(k:Nat)) (FT:i*sz≤ps.length) (hk:0<k) (hgr:cap<i+k) (FH:i+k≤maxLen) (hfit:(i+k)*bytes≤140737488355328) (kq:∀(b2 Ng:Nat) (sp:List Value),i+k≤Ng→Ng≤maxLen→(ps.take (i*sz)).length+sp.length=Ng*sz→TO P n ops r ((d,is (.slice (some ⟨b2,0,none⟩) (i+k) Ng))::E) (Hp M0 w0 S (rs.set j (AE true b2 e (ps.take (i*sz)++sp.map is)))) Q):TO P n ops (o::r) E (Hp M0 w0 S rs) Q:=
 TO.Xa hg fun K M w a NO hdf he hI hK=>by
  have hI:BG M0 w0 S rs M w:=hI
  have hef:=CW (o:=o) he
  have h1:a.eval x=_:=hx.ev hef B2
  have h2:a.eval y= .int .i64 kk:=hy.ev hef B2
  have hjl:j<rs.length:=by rcases Nat.lt_or_ge j rs.length with h|h;exact h;rw [List.getElem?_eq_none h] at hj;cases hj
  obtain ⟨v',w',M',hrun,h3,h4,h5⟩:=WM (ty:=o.type) ht htn hz hby DD hzl hone hsz hI hj hj2 FT hk hgr FH hfit
  have C9:(execOp a.eval o).run P w= .ok (.value v') w':=by rw [hkk] at h2;simp [execOp,ho,resolve,invoke,builtin,h1,h2,hrun]
  obtain ⟨b2,Ng,sp,rfl,q1,q2,q3,q4⟩:=(h5.hold _ (List.mem_of_getElem? (List.getElem?_set_self hjl))).1
  have h6:BG M0 w0 S (rs.set j (AE true b2 e (ps.take (i*sz)++sp.map is))) M' w':=by
   have:=h5.C0 (r':=AE true b2 e (ps.take (i*sz)++sp.map is)) (List.getElem?_set_self hjl) rfl rfl q4
   rwa [List.set_set] at this
  have hgv:Gp P M0 w0 S o a M w (is (.slice (some ⟨b2,0,none⟩) (i+k) Ng)) j (SR.c (AE true b2 e (ps.take (i*sz)++sp.map is))) rs ((execOp a.eval o).run P w):=by
   rw [C9];exact ⟨M',rfl,h4,h6⟩
  refine JF hgv fun v w'' M'' hv hxt K6=>hK _ _ _ _ (kq b2 Ng sp q1 q2 q3) ⟨M'',by rw [CB];exact NO,by rw [put_defers];exact hdf,?_,K6⟩
  intro s q hq
  simp only [List.lookup] at hq
  by_cases hs:s=d
  · subst hs;simp at hq;subst hq;rw [hd,B_ I7];exact hv
  · rw [show (s==d)=false by simpa using hs] at hq;rw [hd,Bz hs];exact q.st _ _ _ _ _ hxt (he s q hq)
end
section
variable {P:Program} {L:Lg P} {n:Fm} {fz:Nat} {E:Env} {M0:Av} {w0:World} {S:Nat→Prop} {rs:List A7} {o:Oper}
theorem VY {I:CU} {e:TypeId} {A:Option Addr} (ho:o.op= .call { callee:= .builtin .cap,args:= #[x],argTypes:= #[t] }) (ht:P.underlying t=some (.slice e)) (hx:VL E x (is (.slice A m cap))):Ab P I o E (int cap):=
 Ab.same fun M w a he _=>by
  have h1:a.eval x=_:=hx.ev he B2
  exact ⟨.int .i64 cap,by simp [execOp,ho,resolve,invoke,builtin,Builtin.cap_,h1,run_underlying ht,goInt],rfl⟩
theorem Kn {I:CU} {e:TypeId} {y:Operand} {k:IntKind} {h:Int} {sz:Nat} (ho:o.op= .slice t x none (some y) none) (ht:P.underlying t=some (.slice e)) (hz:Al P e=some sz) (hx:VL E x (is (.slice (some ⟨b,0,none⟩) m cap))) (hy:VL E y (is (.int k h))) (h0:0≤h) (hl:h≤cap) (h1m:0<cap):
  Ab P I o E (is (.slice (some ⟨b,0,none⟩) h.toNat cap)):=
 Ab.same fun M w a he _=>by
  have h1:a.eval x=_:=hx.ev he At
  have h3:a.eval y=_:=hy.ev he At
  refine ⟨_,?_,rfl⟩
  simp [execOp,ho,h1,h3,Instr.sliceAt,Instr.slice,run_underlying ht,Instr.sliceBounds,Instr.sliceBound,asIntOf,h0,hl,Bg hz]
  intro _;rfl
theorem Ko {I:CU} {e:TypeId} {y:Operand} {k:IntKind} {l:Int} {sz:Nat} (ho:o.op= .slice t x (some y) none none) (ht:P.underlying t=some (.slice e)) (hz:Al P e=some sz) (hx:VL E x (is (.slice (some ⟨b,0,none⟩) m cap))) (hy:VL E y (is (.int k l))) (h0:0≤l) (hl:l≤m) (hc:m≤cap):
  Ab P I o E (lens (m-l.toNat)):=
 Ab.same fun M w a he _=>by
  have h1:a.eval x=_:=hx.ev he At
  have h3:a.eval y=_:=hy.ev he At
  have hb:l≤(m:Int):=by omega
  refine ⟨.slice (if cap=l.toNat then some ⟨b,0,none⟩ else some ⟨b,l.toNat*sz,none⟩) (m-l.toNat) (cap-l.toNat),?_,_,_,rfl⟩
  by_cases hne:cap=l.toNat<;>
  simp [execOp,ho,h1,h3,Instr.sliceAt,Instr.slice,run_underlying ht,Instr.sliceBounds,Instr.sliceBound,asIntOf,h0,hb,Bg hz,hne,Ce]
theorem Tr.J4 {Q:Exit→Act→World→Prop} {c:Code} {e:TypeId} {sz:Nat} (j:Nat) (hj:rs[j]? =some (AE true b e ps)) (hps:ps=rows.flatten++sp.map is) (hm:rows.length=m) (h1:m≤cap) (h2:cap≤maxLen) (h3:sp.length=(cap-m)*sz) (k:Tr L n E (Hp M0 w0 S (rs.set j (Bf e sz rows (.slice (some ⟨b,0,none⟩) m cap)))) c Q):Tr L n E (Hp M0 w0 S rs) c Q:=Tr.conv (fun _ _ hs=>hs.J4 j (by rw [hj,hps]) hm h1 h2 h3) k
theorem Fin.J5 {Q:Exit→Act→World→Prop} {x:Exit} {e:TypeId} {sz:Nat} (j:Nat) (hj:rs[j]? =some (AE true b e ps)) (hps:ps=rows.flatten++sp.map is) (hm:rows.length=m) (h1:m≤cap) (h2:cap≤maxLen) (h3:sp.length=(cap-m)*sz) (k:Fin n E (Hp M0 w0 S (rs.set j (Bf e sz rows (.slice (some ⟨b,0,none⟩) m cap)))) Q x):Fin n E (Hp M0 w0 S rs) Q x:=Fin.conv (fun _ _ hs=>hs.J4 j (by rw [hj,hps]) hm h1 h2 h3) k
theorem BN.WN {e:TypeId} {sz:Nat} {res:Pr} {R':Value→A7} (hE:Entry P f) (h0:rows=[]→v= .slice none 0 0→BN P f (is (.slice none 0 0)::ps) res BW R') (h1:∀(b cap:Nat) (sp:List Value),v= .slice (some ⟨b,0,none⟩) rows.length cap→rows.length≤cap→cap≤maxLen→sp.length=(cap-rows.length)*sz→BN P f (Ao (.slice (some ⟨b,0,none⟩) rows.length cap) (lens rows.length)::ps) res (AE true b e (rows.flatten++sp.map is)) R'):
  BN P f (Ao v p::ps) res (Bf e sz rows v) R':=by
 refine ⟨hE,fun M0 w0 S rs M w vs hI hv=> ?_⟩
 match vs,hv with
 |u0::vs1,MG=>
  obtain ⟨IZ,NH⟩:=MG
  obtain rfl:u0=v:=IZ.1
  have hb0:=hI.hold _ (List.mem_cons_self ..)
  rcases hb0.1 with ⟨hnil,rfl⟩|Yk
  ·
   have K6:=hI.C0 (i:=0) (r':=BW) rfl rfl rfl trivial
   exact (h0 hnil rfl).2 M0 w0 S rs M w _ K6 (show HL M w (_::_) (_::vs1) from ⟨rfl,NH⟩)
  ·
   obtain ⟨b,cap,spare,rfl,hnc,hcm,hsp,TC⟩:=Yk
   have hC:=hI.C0 (i:=0) (r':=AE true b e (rows.flatten++spare.map is)) rfl rfl rfl TC
   exact (h1 b cap spare rfl hnc hcm hsp).2 M0 w0 S rs M w _ hC (show HL M w (_::_) (_::vs1) from ⟨⟨rfl,_,_,rfl⟩,NH⟩)
theorem BN.J6 {e:TypeId} {sz:Nat} {res:Pr} {R:A7} (h:BN P f ps res R (fun v=>C3 e sz rows v)):BN P f ps res R (fun v=>Bf e sz rows v):=by
 refine ⟨h.1,fun M0 w0 S rs M w vs hI hv=>(h.2 M0 w0 S rs M w vs hI hv).mono ?_⟩
 rintro e' w' ⟨v,M',rfl,h2,h3,h4⟩
 exact ⟨v,M',rfl,h2,h3,h4.C0 (i:=0) rfl rfl rfl (.inr (h4.hold _ (List.mem_cons_self ..)).1)⟩
instance l7 (p q:Pr) [Ij p] [Ij q]:Ij (D_ [p,q]):=⟨fun M M' w v ⟨cs,h1,h2⟩=>⟨cs,h1,by
 match cs,h2 with
 |[a,b],h2=>exact ⟨Ij.free _ _ _ _ h2.1,Ij.free _ _ _ _ h2.2.1,trivial⟩⟩⟩
theorem Yp {I:CU} {s:TypeId} {k:IntKind} {n:Int} (ho:o.op= .convert s t x) (hs:P.underlying s=some (.int k)) (ht:P.underlying t=some (.int .u64)) (hx:VL E x (is (.int k n))) (h0:0≤n) (h1:n≤18446744073709551615):Ab P I o E (is (.int .u64 n)):=by
 have:=C_ (P:=P) (I:=I) ho hs ht hx
 rwa [IntWalk.u64_in n ⟨h0,h1⟩] at this
theorem dJ {I:CU} {u:TypeId} {y:Operand} {m:Int} (ho:o.op= .binOp .shr t x y u) (hx:VL E x (is (.int .u64 m))) (hy:VL E y (is (.int .u64 1))) (h0:0≤m):Ab P I o E (is (.int .u64 (m/2))):=
 Ab.same fun M w a he _=>by
  have h1:a.eval x= .int .u64 m:=hx.ev he At
  have h2:a.eval y= .int .u64 1:=hy.ev he At
  refine ⟨.int .u64 (m.fdiv 2),?_,congrArg (Value.int .u64) (Int.fdiv_eq_ediv_of_nonneg m AA)⟩
  simp only [execOp,ho,h1,h2]
  simp [eqGuard,binOp,Op.shift,IntKind.bits]
end
section
variable {P:Program} {L:Lg P} {n:Fm} {fz:Nat} {E:Env} {M0:Av} {w0:World} {S:Nat→Prop} {o:Oper}
def dK (new:Bool) (b:Nat) (T:TypeId) (off:Nat) (p:Pr) (ps:Value→List Pr) (u:Value):A7:=match u with
 | .tuple t=>AE new b T ((ps (t.getD 0 undef)).take off++[Ao (t.getD 1 undef) p]++(ps (t.getD 0 undef)).drop (off+1))
 |_=>BW
theorem LZ {q0 q:Tmp} {off:Nat} {ps:Value→List Pr} [One p] (hg:o.guard=none) (hd:o.dst=none) (ho:o.op= .store t x (.tmp q)) (hx:VL E x (ptr b off)) (hy:E.lookup q=some p) (hz:Al P t=some 1) (hl:∀v,off+1≤(ps v).length):D6 P M0 w0 S n j ⟨.one q0,fun v=>AE new b T (ps v)⟩ ⟨.two q0 q,dK new b T off p ps⟩ o E any:=by
 refine ⟨hg,fun M w a rs hsz he hI hj=> ?_⟩
 have hj':rs[j]? =some (SR.at_ a (SR.c (AE new b T (ps (a.tmps.getD q0 undef))))):=hj
 obtain ⟨h1,h2⟩:=DT (P:=P) (M0:=M0) (w0:=w0) (S:=S) (n:=n) (j:=j) (new:=new) (T:=T) (ps:=ps (a.tmps.getD q0 undef)) (b:=b) (off:=off) hg hd ho hx hy hz (hl _)
 have h3:=h2 M w a rs hsz he hI hj'
 revert h3
 generalize (execOp a.eval o).run P w=r
 have key:∀v,SR.at_ (a.put o.dst v) ⟨.one q,fun v=>AE new b T ((ps (a.tmps.getD q0 undef)).take off++[Ao v p]++(ps (a.tmps.getD q0 undef)).drop (off+1))⟩=SR.at_ (a.put o.dst v) ⟨.two q0 q,dK new b T off p ps⟩:=fun v=>by rw [hd];rfl
 intro h3
 cases r with
 |halt x w'=>exact h3
 |ok x w'=>
  cases x
  case value v=>obtain ⟨M',g1,g2,g3⟩:=h3;exact ⟨M',g1,g2,by rw [←key];exact g3⟩
  case skip=>obtain ⟨M',g1,g2,g3⟩:=h3;exact ⟨M',g1,g2,by rw [←key];exact g3⟩
  case enter f args=>
   refine Calls.mono h3 ?_
   rintro e w'' ⟨v,M',g0,g1,g2,g3⟩
   exact ⟨v,M',g0,g1,g2,by rw [←key];exact g3⟩
  all_goals exact h3
theorem BV.Yq {Q:Exit→Act→World→Prop} {rs:List SR} (j1 j2 i s t:Nat) {f g:Value→A7} {off:Nat} {ps:Value→List Pr} {q r:Pr} (h1:rs[j1]? =some ⟨.one s,f⟩) (h2:rs[j2]? =some ⟨.one t,g⟩) (h3:rs[i]? =some ⟨.two s t,dK new b T off r ps⟩) (h12:j1≠j2) (Mo:j1≠i) (h23:j2≠i) (hst:s≠t) (hs:E.lookup s=some p) (ht:E.lookup t=some q) (k:∀v u,BV n M0 w0 S ((t,Ao u q)::(s,Ao v p)::E) (((rs.set j1 (SR.c (f v))).set j2 (SR.c (g u))).set i (SR.c (AE new b T ((ps v).take off++[Ao u r]++(ps v).drop (off+1))))) Q):BV n M0 w0 S E rs Q:=by
 rintro a w ⟨M,g1,g2,g3,g4⟩
 refine k (a.tmps.getD s undef) (a.tmps.getD t undef) a w ⟨M,g1,g2,?_,?_⟩
 ·
  intro c z hz
  simp only [List.lookup] at hz
  by_cases hct:c=t
  · subst hct;simp only [beq_self_eq_true,Option.some.injEq] at hz;subst hz;exact ⟨rfl,g3 c q ht⟩
  ·
   rw [show (c==t)=false by simpa using hct] at hz
   by_cases hcs:c=s
   · subst hcs;simp only [beq_self_eq_true,Option.some.injEq] at hz;subst hz;exact ⟨rfl,g3 c p hs⟩
   · rw [show (c==s)=false by simpa using hcs] at hz;exact g3 c z hz
 ·
  have e1:=Qj h1 a
  have e2:=Qj (rs:=rs.set j1 (SR.c (f (a.tmps.getD s undef)))) (j:=j2) (s:=t) (f:=g) (by rw [List.getElem?_set,if_neg h12];exact h2) a
  have h3':((rs.set j1 (SR.c (f (a.tmps.getD s undef)))).set j2 (SR.c (g (a.tmps.getD t undef))))[i]? =some ⟨.two s t,dK new b T off r ps⟩:=by grind
  rw [List.map_set,e2,e1]
  have e3:(rs.map (·.at_ a)).set i (AE new b T ((ps (a.tmps.getD s undef)).take off++[Ao (a.tmps.getD t undef) r]++(ps (a.tmps.getD s undef)).drop (off+1)))=rs.map (·.at_ a):=by
   apply List.ext_getElem?
   intro m
   rw [List.getElem?_set]
   by_cases nQ:i=m
   ·
    subst nQ
    rw [if_pos rfl]
    split
    · rw [List.getElem?_map,h3];rfl
    · grind
   · rw [if_neg nQ]
  exact (congrArg (fun l=>BG M0 w0 S l M w) e3).mpr g4
end
section
variable {P:Program} {L:Lg P} {n:Fm} {fz:Nat} {E:Env} {M0:Av} {w0:World} {S:Nat→Prop} {rs:List A7} {ε:Type} {res:ε→List A7}
theorem Tr.eqC {Q:Exit→Act→World→Prop} {c:Code} (j:Nat) (qs:List Pr) (hi:rs[j]? =some (AE new b T ps)) (h:ps=qs) (k:Tr L n E (Hp M0 w0 S (rs.set j (AE new b T qs))) c Q):Tr L n E (Hp M0 w0 S rs) c Q:=by
 subst h;exact Tr.JU j ps hi (Mi.rfl' ps) k
theorem Fin.eqC {Q:Exit→Act→World→Prop} {e:Exit} (j:Nat) (qs:List Pr) (hi:rs[j]? =some (AE new b T ps)) (h:ps=qs) (k:Fin n E (Hp M0 w0 S (rs.set j (AE new b T qs))) Q e):Fin n E (Hp M0 w0 S rs) Q e:=by
 subst h;exact Fin.JU j ps hi (Mi.rfl' ps) k
end
section
variable {P:Program} {L:Lg P} {n:Fm} {fz:Nat} {E:Env} {M0:Av} {w0:World} {S:Nat→Prop} {o:Oper}
theorem SC {I:CU} {e:TypeId} (ho:o.op= .call { callee:= .builtin .len,args:= #[x],argTypes:= #[t] }) (ht:P.underlying t=some (.slice e)) (hx:VL E x (lens m)):Ab P I o E (int m):=
 Ab.same fun M w a he _=>by
  obtain ⟨A,c,h1⟩:=hx.ev he B2
  exact ⟨.int .i64 m,by simp [execOp,ho,resolve,invoke,builtin,Builtin.len_,h1,run_underlying ht,goInt],rfl⟩
end
end Cp
namespace Cp
open Go Go.RowKit
section
variable {P:Program} {L:Lg P} {I:CU} {o:Oper} {E:Env}
theorem WO {c y:Operand} {b d:Bool} (ho:o.op= .pick c (.const (.bool true)) y) (hc:VL E c (bool b)) (hy:VL E y (bool d)):Ab P I o E (bool (b||d)):=by
 cases b with
 |true=>exact LN ho hc rfl (vl rfl)
 |false=>exact LO ho hc rfl hy
theorem Ty {c x:Operand} {b d:Bool} (ho:o.op= .pick c x (.const (.bool false))) (hc:VL E c (bool b)) (hx:VL E x (bool d)):Ab P I o E (bool (b&&d)):=by
 cases b with
 |true=>exact LN ho hc rfl hx
 |false=>exact LO ho hc rfl (vl rfl)
end
section
variable {P:Program} {L:Lg P} {n:Fm} {fz:Nat} {E:Env} {M0:Av} {w0:World} {S:Nat→Prop} {rs:List A7} {o:Oper}
end
end Cp
namespace Cp
open Go Go.RowKit Go.Great
variable {xs:Array Operand} {ts:Array TypeId} {M:Av} {new:Bool} {f:FuncId} {rows:List (List Pr)} {ps:List Pr} {b cap d i j k m:Nat} {x:Operand} {p q:Pr} {T t:TypeId} {v:Value} {w:World}
def MK {α:Type} (P:Program) (f:FuncId) (args:List Pr) (pre:List A7) (C:α→Prop) (res:α→Pr) (post:α→List A7):Prop:=Entry P f∧∀M0 w0 S rs M w vs,BG M0 w0 S (pre++rs) M w→HL M w args vs→
 Calls P f vs.toArray w fun e w'=>∃v M' x,e= .returned v∧C x∧(res x).h M' w' v∧Ext M w M' w'∧BG M0 w0 S (post x++rs) M' w'
def N3 {α:Type} (M0:Av) (w0:World) (S:Nat→Prop) (rs:List A7) (M1:Av) (w1:World) (C:α→Prop) (res:α→Pr) (post:α→List A7) (e:Ending) (w':World):Prop:=∃v M' x,e= .returned v∧C x∧(res x).h M' w' v∧Ext M1 w1 M' w'∧BG M0 w0 S (post x++rs) M' w'
section
variable {P:Program} {L:Lg P} {n:Fm} {fz:Nat} {E:Env} {M0:Av} {w0:World} {S:Nat→Prop} {rs:List A7} {α:Type} {pre:List A7} {C:α→Prop} {res:α→Pr} {post:α→List A7} {M1:Av} {w1:World} {g:Func} {o:Oper} {r:List Oper} {ops:Array Oper}
theorem MK.of {c : Code} (hf : P.funcs[f]? = some g) (hb : g.body = some c) (hname : (g.name == "runtime.NumGoroutine") = false) (hlen : ps.length ≤ g.ntmps) (h : ∀ M0 w0 S rs M1 w1, Tr (Td P) g.ntmps (Jl 0 ps) (Hp M0 w0 S (pre ++ As M1 w1 :: rs)) c (bodyPost P g (N3 M0 w0 S rs M1 w1 C res post))) : MK P f ps pre C res post := by
 refine ⟨⟨g,hf,hname,by rw [hb];rfl⟩,fun M0 w0 S rs M w vs hI hv=> ?_⟩
 refine calls_of_wp hf hb (h M0 w0 S rs M w _ _ ⟨M,?_,rfl,FK hv,?_⟩)
 ·
  have:=hv.length
  simp [this];omega
 · exact Ta
theorem BG.PB {args:List Pr} {rest:List A7} (hf:MK P f args pre C res post) (hp:rs.Perm (pre++rest)) (hI:BG M0 w0 S rs M w) {vs:List Value} (hv:HL M w args vs):
  Calls P f vs.toArray w fun e w'=>∃v M' x,e= .returned v∧C x∧(res x).h M' w' v∧Ext M w M' w'∧BG M0 w0 S (post x++rest) M' w':=hf.2 M0 w0 S rest M w vs (BG.perm hp hI) hv
theorem TO.PB {Q:Exit→Act→World→Prop} (rest:List A7) (hg:o.guard=none) (hd:o.dst=some d) (hn:d<n) (ho:o.op= .call { callee:= .value (.func f),args:=xs,argTypes:=ts }) (hf:MK P f ps pre C res post) (hv:Fa E xs.toList ps) (hp:rs.Perm (pre++rest)) (k:∀x,C x→TO P n ops r ((d,res x)::E) (Hp M0 w0 S (post x++rest)) Q):TO P n ops (o::r) E (Hp M0 w0 S rs) Q:=
 TO.Xa hg fun K M w a hsz hdf he hI hK=>by
  have hI:BG M0 w0 S rs M w:=hI
  have h1:=Fa.ET (o:=o) (CW he) (xs:=xs.toList) (fun x hx=>by simp [ho,Op.operands,Call.operands];exact .inr F1) hv
  have hrun:(execOp a.eval o).run P w= .ok (.enter f (xs.toList.map a.eval).toArray) w:=by
   simp [execOp,ho,resolve,Deferred.ofValue,Act.eval,invoke,C8 hf.1,Fc xs]
  unfold Oper.wp
  rw [hrun]
  refine (BG.PB hf hp hI h1).mono ?_
  rintro e w' ⟨v,M',x,rfl,hC,h2,h3,h4⟩
  refine hK _ _ _ _ (k x hC) ⟨M',by rw [CB];exact hsz,by rw [put_defers];exact hdf,?_,h4⟩
  intro s q hq
  simp only [List.lookup] at hq
  by_cases hs:s=d
  · subst hs;simp at hq;subst hq;rw [hd,B_ Gm];exact h2
  · rw [show (s==d)=false by simpa using hs] at hq;rw [hd,Bz hs];exact q.st _ _ _ _ _ h3 (he s q hq)
theorem pW {l:List A7} (h:BG M0 w0 S (l++As M1 w1::rs) M w):Ext M1 w1 M w∧BG M0 w0 S (l++rs) M w:=
 ⟨(h.hold (As M1 w1) Aa).1,(BG.perm List.perm_middle h).G2⟩
theorem Fin.pX {rv:ResultVar} {rs':List A7} (x:α) (hr:g.results= #[rv]) (h:AR P E rs' rv q) (hC:C x) (hl:Pr.le q (res x)) (hp:rs'.Perm (post x++As M1 w1::rs)):
  Fin ⟨fz,[]⟩ E (Hp M0 w0 S rs') (bodyPost P g (N3 M0 w0 S rs M1 w1 C res post)) .ret:=by
 rintro a w ⟨M,_,hd,he,hi⟩
 have hi:BG M0 w0 S rs' M w:=hi
 obtain ⟨v,hv,hp'⟩:=h M w a he (fun q hq=>(hi.hold q hq).1)
 obtain ⟨h1,h2⟩:=pW (BG.perm hp hi)
 exact ⟨hd,v,results1 hr hv,_,M,x,rfl,hC,hl _ _ _ hp',h1,h2⟩
end
section
variable {P:Program} {L:Lg P} {n:Fm} {fz:Nat} {E:Env} {M0:Av} {w0:World} {S:Nat→Prop} {rs:List A7} {o:Oper}
def ji:Value→Option Nat
 | .slice (some a) _ (_+1)=>some a.block
 |_=>none
def Ac (e:TypeId) (sz:Nat) (rows:List (List Pr)) (v:Value):A7 where
 blk:=ji v
 new:=true
 h M w:=(rows=[]∧∃A,v= .slice A 0 0)∨(∃(b cap:Nat) (spare:List Value),v= .slice (some ⟨b,0,none⟩) rows.length (cap+1)∧rows.length≤cap+1∧cap+1≤maxLen∧spare.length=(cap+1-rows.length)*sz∧(AE true b e (rows.flatten++spare.map is)).h M w)
 st M w M' w' he hk h:=by
  rcases h with h|⟨b,cap,spare,rfl,h1,h2,h3,h4⟩
  · exact .inl h
  · exact .inr ⟨b,cap,spare,rfl,h1,h2,h3,(AE true b e _).st _ _ _ _ he hk h4⟩
theorem Ar {α:Type} {l:List α} {x:α} (h:l[j]? =some x):j<l.length:=by grind
theorem BG.blank {r:A7} (h:BG M0 w0 S rs M w) (hj:rs[j]? =some r):BG M0 w0 S (rs.set j BW) M w:=
 BG.perm (Ke (Ar hj)) ((BG.perm (AK hj) h).G2.LH (r:=BW) rfl trivial)
theorem N4 (sz:Nat) (A:Option Addr) (M:Av) (w:World):(slice sz []).h M w (.slice A 0 0):=⟨A,0,rfl,Nat.le_refl _,Nat.zero_le _,fun _=>rfl,fun i row h=>by simp at h⟩
theorem PC (sz:Nat) (A:Option Addr) (M:Av) (w:World):(full sz []).h M w (.slice A 0 0):=⟨N4 sz A M w,A,rfl⟩
theorem BG.WQ {sz:Nat} {e:TypeId} (h:BG M0 w0 S rs M w) (hj:rs[j]? =some (Ac e sz rows v)) (hl:∀r∈rows,r.length=sz):
  ∃M',Ext M w M' w∧BG M0 w0 S (rs.set j BW) M' w∧(slice sz rows).h M' w v:=by
 have hjl:=Ar hj
 rcases (h.hold _ (List.mem_of_getElem? hj)).1 with ⟨rfl,A,rfl⟩|⟨b,cap,spare,rfl,hnc,hcm,hsp,TC⟩
 · exact ⟨M,Ext.refl _ _,h.blank hj,N4 sz A M w⟩
 ·
  have hC:=h.C0 (r':=AE true b e (rows.flatten++spare.map is)) hj rfl rfl TC
  obtain ⟨M',h1,h2,h3⟩:=BG.bB hC (List.getElem?_set_self hjl) hl hnc hcm (by rw [List.length_map];exact hsp)
  have h4:=h2.blank (j:=j) (by rw [List.set_set];exact List.getElem?_set_self hjl)
  rw [List.set_set,List.set_set] at h4
  exact ⟨M',h1,h4,h3⟩
theorem HL.set {vs:List Value} (h:HL M w ps vs) (hk:ps[k]? =some p) (hq:∀u,p.h M w u→q.h M w u):HL M w (ps.set k q) vs:=by
 refine R6 (by rw [h.length];simp) fun k' p' hk'=> ?_
 rw [List.getElem?_set] at hk'
 split at hk'
 ·
  rename_i e1
  subst e1
  split at hk'
  ·
   obtain ⟨u,hu,bQ⟩:=h.at_ k p hk
   simp at hk';subst hk'
   exact ⟨u,hu,hq u bQ⟩
  · cases hk'
 · exact h.at_ k' p' hk'
theorem BG.Gf {sz:Nat} {e:TypeId} (h:BG M0 w0 S rs M w) (hi:rs[i]? =some (AE new b T ps)) (hj:rs[j]? =some (Ac e sz rows v)) (hij:j≠i) (hk:ps[k]? =some (is v)) (hl:∀r∈rows,r.length=sz):
  ∃M',Ext M w M' w∧BG M0 w0 S ((rs.set j BW).set i (AE new b T (ps.set k (slice sz rows)))) M' w:=by
 obtain ⟨M',h1,h2,h3⟩:=h.WQ hj hl
 have hi':(rs.set j BW)[i]? =some (AE new b T ps):=by grind
 refine ⟨M',h1,h2.C0 hi' rfl rfl ?_⟩
 obtain ⟨g1,cs,g2,g3,g4⟩:=(h2.hold _ (List.mem_of_getElem? hi')).1
 exact ⟨g1,cs,g2,g3.set hk (fun u hu=>by rw [show u=v from hu];exact h3),g4⟩
theorem BN.JI {e:TypeId} {sz:Nat} {res:Pr} {R':Value→A7} (hE:Entry P f) (h0:rows=[]→BN P f (full sz []::ps) res BW R') (h1:∀(b cap:Nat) (sp:List Value),rows.length≤cap→cap≤maxLen→sp.length=(cap-rows.length)*sz→BN P f (Ao (.slice (some ⟨b,0,none⟩) rows.length cap) (lens rows.length)::ps) res (AE true b e (rows.flatten++sp.map is)) R'):
  BN P f (is v::ps) res (Ac e sz rows v) R':=by
 refine ⟨hE,fun M0 w0 S rs M w vs hI hv=> ?_⟩
 match vs,hv with
 |u0::vs1,MG=>
  obtain ⟨IZ,NH⟩:=MG
  obtain rfl:u0=v:=IZ
  rcases (hI.hold _ (List.mem_cons_self ..)).1 with ⟨hnil,A,rfl⟩|⟨b,cap,spare,rfl,hnc,hcm,hsp,TC⟩
  · exact (h0 hnil).2 M0 w0 S rs M w _ (hI.blank (j:=0) rfl) (show HL M w (_::_) (_::vs1) from ⟨PC sz A M w,NH⟩)
  ·
   have hC:=hI.C0 (i:=0) (r':=AE true b e (rows.flatten++spare.map is)) rfl rfl rfl TC
   exact (h1 b (cap+1) spare hnc hcm hsp).2 M0 w0 S rs M w _ hC (show HL M w (_::_) (_::vs1) from ⟨⟨rfl,_,_,rfl⟩,NH⟩)
theorem BN.N5 {e:TypeId} {sz:Nat} {res:Pr} [Ij res] (hl:∀r∈rows,r.length=sz) (h:Ay P f (slice sz rows::ps) res):
  BN P f (is v::ps) res (Ac e sz rows v) (fun _=>Ac e sz rows v):=by
 refine ⟨h.1,fun M0 w0 S rs M w vs hI hv=> ?_⟩
 match vs,hv with
 |u0::vs1,MG=>
  obtain ⟨IZ,NH⟩:=MG
  obtain rfl:u0=v:=IZ
  obtain ⟨M',hx,K6,hs⟩:=BG.WQ (j:=0) hI rfl hl
  refine (h.2 M' w _ K6.bd (show HL M' w (_::_) (_::vs1) from ⟨hs,NH.st hx⟩)).mono ?_
  rintro e' w' ⟨u,rfl,h2,h3⟩
  exact ⟨u,M,rfl,Ij.free _ _ _ _ h2,Ext.below h3,(Hp M0 w0 S _).st _ _ _ h3 hI⟩
def part (sz:Nat) (v:Value) (k:Nat):Pr where
 h _ _ u:=∃a m c,v= .slice a m c∧k≤m∧u= .slice (if c=k then a else a.map fun x=>x.add (k*sz)) (m-k) (c-k)
 st _M _w _M' _w' _v _ h:=h
instance pY (sz:Nat) (v:Value) (k:Nat):One (part sz v k):=⟨by rintro M w u ⟨a,m,c,h1,h2,rfl⟩;exact ⟨rfl,rfl⟩⟩
theorem Tz {sz:Nat} {u:Value} (h:(slice sz rows).h M w v) (hu:(part sz v k).h M w u):(slice sz (rows.drop k)).h M w u:=by
 obtain ⟨A,cap,rfl,hc,hm,hA,hr⟩:=h
 obtain ⟨a,m,c,hv,hk,rfl⟩:=hu
 injection hv with e1 e2 e3
 subst e1;subst e2;subst e3
 refine ⟨_,cap-k,by rw [List.length_drop],by rw [List.length_drop];omega,by omega,fun hn=> ?_,fun i row hi=> ?_⟩
 ·
  split at hn
  · have:=hA hn;omega
  ·
   cases A with
   |none=>have:=hA rfl;omega
   |some x=>cases hn
 ·
  rw [List.getElem?_drop] at hi
  obtain ⟨h1,ad,rfl,h3⟩:=hr _ _ hi
  have:=Ar hi
  refine ⟨h1,ad.add (k*sz),by rw [if_neg AA];rfl,fun j p hp=> ?_⟩
  obtain ⟨q,h4,h5,h6,h7⟩:=h3 j p hp
  have e:k*sz+(i*sz+j)=(k+i)*sz+j:=by rw [Nat.add_mul];omega
  exact ⟨q,by rw [add_add,e];exact h4,by rw [FI,JB,Nat.add_assoc,e];exact h5,h6,h7⟩
theorem BN.bB {args:List Pr} {e:TypeId} {sz:Nat} {R:A7} (hl:∀r∈rows,r.length=sz) (h:BN P f args (lens m) R (fun v=>Bf e sz rows v)):BN P f args (slice sz rows) R (fun _=>BW):=by
 refine ⟨h.1,fun M0 w0 S rs M w vs hI hv=>(h.2 M0 w0 S rs M w vs hI hv).mono ?_⟩
 rintro e' w' ⟨v,M',rfl,h2,h3,h4⟩
 obtain ⟨M2,j1,j2,j3⟩:=BG.dG (j:=0) h4 rfl hl
 exact ⟨v,M2,rfl,j3,h3.trans j1,j2.blank (j:=0) rfl⟩
theorem BN.pZ {args:List Pr} {e:TypeId} {sz:Nat} {R:A7} (hl:∀r∈rows,r.length=sz) (h:BN P f args (lens m) R (fun v=>C3 e sz rows v)):BN P f args (slice sz rows) R (fun _=>BW):=
 BN.bB hl (BN.J6 h)
theorem BN.J7 {e:TypeId} {sz:Nat} {res:Pr} {R:A7} (h0:rows≠[]) (h:BN P f ps res R (fun v=>C3 e sz rows v)):BN P f ps res R (fun v=>Ac e sz rows v):=by
 refine ⟨h.1,fun M0 w0 S rs M w vs hI hv=>(h.2 M0 w0 S rs M w vs hI hv).mono ?_⟩
 rintro e' w' ⟨v,M',rfl,h2,h3,h4⟩
 refine ⟨v,M',rfl,h2,h3,?_⟩
 have hpos:=List.length_pos_iff.2 h0
 obtain ⟨b,cap,spare,rfl,hnc,hcm,hsp,TC⟩:=(h4.hold _ (List.mem_cons_self ..)).1
 cases cap with
 |zero=>omega
 |succ cap=>exact h4.C0 (i:=0) rfl rfl rfl (.inr ⟨b,cap,spare,rfl,hnc,hcm,hsp,TC⟩)
theorem BN.N6 {e:TypeId} {sz sz':Nat} (h:Ay P f ps (full sz' [])):BN P f ps (lens 0) BW (fun v=>Ac e sz [] v):=by
 refine ⟨h.1,fun M0 w0 S rs M w vs hI hv=>(h.2 M w vs hI.bd hv).mono ?_⟩
 rintro e' w' ⟨v,rfl,⟨_,a,rfl⟩,h3⟩
 refine ⟨_,M,rfl,⟨_,_,rfl⟩,Ext.below h3,?_⟩
 have K6:BG M0 w0 S (BW::rs) M w':=(Hp M0 w0 S _).st _ _ _ h3 hI
 exact K6.C0 (i:=0) (r':=Ac e sz [] (.slice a 0 0)) rfl (by cases a<;>rfl) rfl (.inl ⟨rfl,a,rfl⟩)
theorem VZ {e:TypeId} {y:Operand} {k:IntKind} {l:Int} {sz:Nat} (ho:o.op= .slice t x (some y) none none) (ht:P.underlying t=some (.slice e)) (hz:Al P e=some sz) (hx:VL E x (is v)) (hy:VL E y (is (.int k l))) (h0:0≤l) (hl:l≤rows.length):
  Jm P M0 w0 S j (SR.c (Ac T sz rows v)) o E (part sz v l.toNat):=by
 intro M w a rs he hI hj
 have h1:a.eval x=v:=hx.ev he At
 have h3:a.eval y= .int k l:=hy.ev he At
 have hj':rs[j]? =some (Ac T sz rows v):=hj
 rcases (hI.hold _ (List.mem_of_getElem? hj')).1 with ⟨rfl,A,hv⟩|⟨b,cap,spare,hv,hnc,hcm,hsp,TC⟩
 ·
  have WR:l=0:=by simp at hl;omega
  subst WR
  have hrun:(execOp a.eval o).run P w= .ok (.value (.slice A 0 0)) w:=by
   simp [execOp,ho,h1,h3,hv,Instr.sliceAt,Instr.slice,run_underlying ht,Instr.sliceBounds,Instr.sliceBound,asIntOf,Bg hz]
  rw [hrun]
  exact ⟨⟨A,0,0,hv,Nat.le_refl _,by simp⟩,Below.refl _ _⟩
 ·
  have hrun:(execOp a.eval o).run P w= .ok (.value (.slice (if cap+1=l.toNat then some ⟨b,0,none⟩ else some ⟨b,l.toNat*sz,none⟩) (rows.length-l.toNat) (cap+1-l.toNat))) w:=by
   by_cases hne:cap+1=l.toNat<;>
   simp [execOp,ho,h1,h3,hv,Instr.sliceAt,Instr.slice,run_underlying ht,Instr.sliceBounds,Instr.sliceBound,asIntOf,h0,hl,Bg hz,hne,Ce]
  rw [hrun]
  refine ⟨⟨_,_,_,hv,by omega,?_⟩,Below.refl _ _⟩
  simp [Ce]
def l9 (sz:Nat) (v:Value) (i o:Nat):Pr where
 h _ _ u:=∃a m c,v= .slice (some a) m c∧u= .pointer (some (a.add (i*sz+o)))
 st _M _w _M' _w' _v _ h:=h
instance sU (sz:Nat) (v:Value) (k o:Nat):One (l9 sz v k o):=⟨by rintro M w u ⟨a,m,c,h1,rfl⟩;exact ⟨rfl,rfl⟩⟩
theorem EG {e:TypeId} {y:Operand} {k:IntKind} {l:Int} {sz:Nat} (ho:o.op= .indexAddr t x y) (ht:P.underlying t=some (.slice e)) (hz:Al P e=some sz) (hx:VL E x (is v)) (hy:VL E y (is (.int k l))) (h0:0≤l) (hl:l<rows.length):
  Jm P M0 w0 S j (SR.c (Ac T sz rows v)) o E (l9 sz v l.toNat 0):=by
 intro M w a rs he hI hj
 have h1:a.eval x=v:=hx.ev he At
 have h3:a.eval y= .int k l:=hy.ev he At
 have hj':rs[j]? =some (Ac T sz rows v):=hj
 rcases (hI.hold _ (List.mem_of_getElem? hj')).1 with ⟨rfl,A,hv⟩|⟨b,cap,spare,hv,hnc,hcm,hsp,TC⟩
 · simp at hl;omega
 ·
  have hrun:(execOp a.eval o).run P w= .ok (.value (.pointer (some ((⟨b,0,none⟩:Addr).add (l.toNat*sz))))) w:=by
   simp [execOp,ho,h1,h3,hv,Instr.indexAt,asIntOf,run_underlying ht,Bg hz,h0,hl]
  rw [hrun]
  exact ⟨⟨_,_,_,hv,rfl⟩,Below.refl _ _⟩
theorem T0 {I:CU} {f sz q off:Nat} (ho:o.op= .fieldAddr t x f) (hf:AZ P t f=some off) (hx:VL E x (l9 sz v i q)):Ab P I o E (l9 sz v i (q+off)):=
 Ab.same fun M w a he _=>by
  obtain ⟨a0,m0,c0,hv,h1⟩:=hx.ev he At
  exact ⟨.pointer (some ((a0.add (i*sz+q)).add off)),by simp [execOp,ho,h1,Ia hf],a0,m0,c0,hv,by rw [add_add,Nat.add_assoc]⟩
theorem Eo {sz:Nat} {row:List Pr} (ho:o.op= .load t x) (ht:Eb P t=true) (hz:Al P t=some sz) (hx:VL E x (l9 sz v i 0)) (hl:∀r∈rows,r.length=sz) (hi:rows[i]? =some row):
  Jm P M0 w0 S j (SR.c (Ac T sz rows v)) o E (agg row):=by
 intro M w a rs he hI hj
 obtain ⟨a0,m0,c0,iR,h1⟩:=hx.ev he At
 rw [Nat.add_zero] at h1
 have hj':rs[j]? =some (Ac T sz rows v):=hj
 rcases (hI.hold _ (List.mem_of_getElem? hj')).1 with ⟨rfl,A,hv⟩|⟨b,cap,spare,hv,hnc,hcm,hsp,⟨_,cs,h4,h5,h6⟩⟩
 · simp at hi
 ·
  rw [iR] at hv
  injection hv with e1 e2 e3
  injection e1 with e1
  subst e1
  have FT:=Ar hi
  have hrl:=hl row (List.mem_of_getElem? hi)
  have hfl:=CV hl
  have hle:(i+1)*sz≤rows.length*sz:=Nat.mul_le_mul_right sz FT
  rw [Nat.add_mul] at hle
  have h7:HL M w row ((cs.drop (i*sz)).take sz):=by
   have h8:=(h5.drop (i*sz)).take sz
   have e4:((rows.flatten++spare.map is).drop (i*sz)).take sz=row:=by
    refine List.ext_getElem? fun j=> ?_
    rw [List.getElem?_take]
    split
    ·
     rename_i hj
     rw [List.getElem?_drop,List.getElem?_append_left (by rw [hfl];omega),HV hl hi hj]
    · grind
   rwa [e4] at h8
  have hl':((cs.drop (i*sz)).take sz).length=sz:=by rw [h7.length,hrl]
  have hrun:(loadCells ((⟨b,0,none⟩:Addr).add (i*sz)) sz).run P w= .ok ((cs.drop (i*sz)).take sz).toArray w:=by
   have:=run_loadCells_list (P:=P) w ((⟨b,0,none⟩:Addr).add (i*sz)) ((cs.drop (i*sz)).take sz) (fun k u hk=>by
    rw [add_add,Ce]
    rw [List.getElem?_take] at hk
    split at hk
    · rw [List.getElem?_drop] at hk;simp [World.cell?,h4,hk]
    · cases hk)
   rwa [hl'] at this
  have C9:(execOp a.eval o).run P w= .ok (.value (.agg ((cs.drop (i*sz)).take sz).toArray)) w:=by simp [execOp,ho,h1,Instr.loadAt,Instr.sureAddr,loadVar,Dg ht,Bg hz,hrun]
  rw [C9]
  exact ⟨⟨_,rfl,fun c hc=>h6 c (List.mem_of_mem_drop (List.mem_of_mem_take hc)),h7⟩,Below.refl _ _⟩
theorem SD {sz:Nat}:∀{rows:List (List Pr)} {i:Nat} {row:List Pr} {o:Nat} {qs S:List Pr},(∀r∈rows,r.length=sz)→rows[i]? =some row→o+qs.length≤sz→
  (rows.flatten++S).take (i*sz+o)++qs++(rows.flatten++S).drop (i*sz+o+qs.length)=(rows.set i (row.take o++qs++row.drop (o+qs.length))).flatten++S
 |[],_,_,_,_,_,_,h,_=>by simp at h
 |a::l,0,row,o,qs,S,hl,h,ho=>by
  simp at h;subst h
  have h1:=hl a Aa
  rw [List.set_cons_zero,List.flatten_cons,List.flatten_cons,Nat.zero_mul,Nat.zero_add,List.append_assoc a,List.take_append_of_le_length AA,List.drop_append_of_le_length AA]
  simp
 |a::l,i+1,row,o,qs,S,hl,h,ho=>by
  have h1:=hl a Aa
  have ih:=SD (S:=S) (fun r hr=>hl r (List.mem_cons_of_mem _ hr)) (i:=i) (row:=row) (o:=o) (qs:=qs) FF ho
  rw [List.set_cons_succ, List.flatten_cons, List.flatten_cons, List.append_assoc a, List.append_assoc a, ← ih, List.take_append, List.drop_append, List.take_of_length_le (by rw [h1, Nat.succ_mul]; omega), List.drop_of_length_le (by rw [h1, Nat.succ_mul]; omega),
   show (i+1)*sz+o-a.length=i*sz+o by rw [h1,Nat.succ_mul];omega,show (i+1)*sz+o+qs.length-a.length=i*sz+o+qs.length by rw [h1,Nat.succ_mul];omega]
  simp
theorem D4 {y:Operand} {sz q:Nat} {rows':List (List Pr)} {row qs:List Pr} (hg:o.guard=none) (ho:o.op= .store t x y) (hx:VL E x (l9 sz v i q)) (hy:VL E y (DR qs)) (hz:Al P t=some m) (hm:qs.length=m) (hl:∀r∈rows,r.length=sz) (hi:rows[i]? =some row) (hq:q+m≤sz) (hps:rows.set i (row.take q++qs++row.drop (q+m))=rows'):D6 P M0 w0 S n j (SR.c (Ac T sz rows v)) (SR.c (Ac T sz rows' v)) o E any:=by
 refine ⟨hg,fun M w a rs hsz he hI hj=> ?_⟩
 obtain ⟨a0,m0,c0,iR,h1⟩:=hx.ev he (show x∈o.op.operands.toList by simp [ho,Op.operands])
 obtain ⟨h2,h3⟩:=hy.ev he (show y∈o.op.operands.toList by simp [ho,Op.operands])
 have hj':rs[j]? =some (Ac T sz rows v):=hj
 have hjl:=Ar hj'
 rcases (hI.hold _ (List.mem_of_getElem? hj')).1 with ⟨rfl,A,hv⟩|⟨b,cap,spare,hv,hnc,hcm,hsp,TC⟩
 · simp at hi
 ·
  subst hv
  injection iR with e1 e2 e3
  injection e1 with e1
  subst e1
  have hC:=hI.C0 (r':=AE true b T (rows.flatten++spare.map is)) hj' rfl rfl TC
  have hjC:(rs.set j (AE true b T (rows.flatten++spare.map is)))[j]? =some (AE true b T (rows.flatten++spare.map is)):=List.getElem?_set_self hjl
  obtain ⟨_,cs,h4,h5,h6⟩:=TC
  have a_:=h5.length
  have gA:=h2.length
  have FT:=Ar hi
  have hfl:=CV hl
  rw [List.length_append,hfl,List.length_map] at a_
  have hle:(i+1)*sz≤rows.length*sz:=Nat.mul_le_mul_right sz FT
  rw [Nat.succ_mul] at hle
  have hcells:(a.eval y).cells.size=m:=by rw [←hm,←gA];simp
  have hrun:(storeCells ((⟨b,0,none⟩:Addr).add (i*sz+q)) (a.eval y).cells.toList 0).run P w= .ok () (w.setRow b (cs.take (i*sz+q)++(a.eval y).cells.toList++cs.drop (i*sz+q+m)).toArray):=by
   have:=run_storeCells_at (P:=P) b (i*sz+q) T (a.eval y).cells.toList 0 cs.toArray w h4 CK h3
   rw [Ce,Nat.zero_add]
   simpa [hcells] using this
  have C9:(execOp a.eval o).run P w= .ok .skip (w.setRow b (cs.take (i*sz+q)++(a.eval y).cells.toList++cs.drop (i*sz+q+m)).toArray):=by
   simp [execOp,ho,h1,Instr.storeAt,Instr.sureAddr,storeVar,Bg hz,hcells,hrun]
  rw [C9]
  have hfs:=SD (S:=spare.map is) hl hi (o:=q) (qs:=qs) AA
  rw [hm,hps] at hfs
  obtain ⟨h7, h8⟩ := BG.write (qs := rows'.flatten ++ spare.map is) (cs := cs.take (i * sz + q) ++ (a.eval y).cells.toList ++ cs.drop (i * sz + q + m)) hC hjC (by rw [← hfs]; exact (((h5.take (i * sz + q)).app h2)).app (h5.drop (i * sz + q + m)))
   (fun c hc=>by
    simp only [List.mem_append] at hc
    rcases hc with (hc|hc)|hc
    · grind
    · exact h3 c hc
    · exact h6 c (List.mem_of_mem_drop hc))
  rw [List.set_set] at h7
  refine ⟨M,trivial,h8,?_⟩
  have hlen:rows'.length=rows.length:=by rw [←hps,List.length_set]
  have h9:=h7.C0 (r':=Ac T sz rows' (.slice (some ⟨b,0,none⟩) rows.length (cap+1))) (List.getElem?_set_self hjl) rfl rfl (.inr ⟨b,cap,spare,by rw [hlen],by rw [hlen];exact hnc,hcm,by rw [hlen];exact hsp,(h7.hold _ (List.mem_of_getElem? (List.getElem?_set_self hjl))).1⟩)
  rw [List.set_set] at h9
  exact h9
theorem Kq {I:CU} {e:TypeId} {y z:Operand} {k k':IntKind} {l h:Int} {sz:Nat} (ho:o.op= .slice t x (some y) (some z) none) (ht:P.underlying t=some (.slice e)) (hz:Al P e=some sz) (hx:VL E x (is (.slice (some ⟨b,0,none⟩) m cap))) (hy:VL E y (is (.int k l))) (hzv:VL E z (is (.int k' h))) (h0:0≤l) (hlh:l<h) (hl:h≤cap):
  Ab P I o E (is (.slice (some ⟨b,l.toNat*sz,none⟩) (h.toNat-l.toNat) (cap-l.toNat))):=
 Ab.same fun M w a he _=>by
  have h1:a.eval x=_:=hx.ev he At
  have h3:a.eval y=_:=hy.ev he At
  have h5:a.eval z=_:=hzv.ev he At
  have hne:¬cap=l.toNat:=by omega
  have h00:0≤h:=by omega
  have hle:l≤h:=by omega
  have m1:max h 0=h:=by omega
  have m2:¬h<l:=by omega
  refine ⟨_,?_,rfl⟩
  simp [execOp,ho,h1,h3,h5,Instr.sliceAt,Instr.slice,run_underlying ht,Instr.sliceBounds,Instr.sliceBound,asIntOf,h0,h00,hle,hl,m1,m2,Bg hz,hne,Ce]
theorem Ik {I:CU} {e:TypeId} {y z u:Operand} {k k' k2:IntKind} {l h c:Int} {sz:Nat} (ho:o.op= .slice t x (some y) (some z) (some u)) (ht:P.underlying t=some (.slice e)) (hz:Al P e=some sz) (hx:VL E x (is (.slice (some ⟨b,0,none⟩) m cap))) (hy:VL E y (is (.int k l))) (hzv:VL E z (is (.int k' h))) (hu:VL E u (is (.int k2 c))) (h0:0≤l) (hlh:l≤h) (hhc:h≤c) (hl:c≤cap):
  Ab P I o E (lens (h.toNat-l.toNat)):=
 Ab.same fun M w a he _=>by
  have h1:a.eval x=_:=hx.ev he At
  have h3:a.eval y=_:=hy.ev he At
  have h5:a.eval z=_:=hzv.ev he At
  have h7:a.eval u=_:=hu.ev he At
  have h00:0≤h:=by omega
  have h01:0≤c:=by omega
  have m1:max h 0=h:=by omega
  have m3:max l 0=l:=by omega
  have m4:max c 0=c:=by omega
  have m5:¬h<l:=by omega
  have m6:¬c<h:=by omega
  refine ⟨.slice (if c.toNat=l.toNat then some ⟨b,0,none⟩ else some ⟨b,l.toNat*sz,none⟩) (h.toNat-l.toNat) (c.toNat-l.toNat),?_,_,_,rfl⟩
  by_cases hne:c.toNat=l.toNat<;>
  simp [execOp,ho,h1,h3,h5,h7,Instr.sliceAt,Instr.slice,run_underlying ht,Instr.sliceBounds,Instr.sliceBound,asIntOf,h0,h00,h01,hlh,hhc,hl,m1,m3,m4,m5,m6,Bg hz,hne,Ce]<;>(intro _;exfalso;omega)
theorem BG.gp:∀{l:List A7} {M:Av} {w:World},BG M0 w0 S (l++rs) M w→BG M0 w0 S rs M w
 |[],_,_,h=>h
 |_::l,_,_,h=>BG.gp (l:=l) h.G2
end
end Cp
