/-
  Part 2 of the texts that prove this claim, merged.
-/
import Derived.Laws.MakeOwn
import Derived.Test.YtgilhkjlfongoaaGreatProg
import Derived.KernelRfl
import Derived.Lib.ConvBytes
import Derived.Lib.Bytealg
import Derived.Laws.StructEq
import Derived.Laws.Externs
import Derived.Lib.AtoiErrMem
import Derived.Laws.IdiomRangeMap
import Derived.Sort.LotA
import Derived.Sort.LotB
import Derived.Sort.LotC
import Derived.Lib.AppendZeros
import Derived.Lib.AppendZerosOnto
import Derived.Test.YtgilhkjlfongoaaGreatAsMadeP1
set_option linter.all false
set_option maxRecDepth 40000
set_option maxHeartbeats 16000000
namespace Cp
open Go Go.RowKit Go.Great
section
variable {P:Program} {L:Lg P} {n:Fm} {fz:Nat} {E:Env} {I:CL} {Q:Exit→Act→World→Prop}
theorem Tr.Tw {α0:Type} (K:Env) (hK:B_ E K) (F:α0→Env) (Ii:α0→CL) (C:α0→Prop) (μ:α0→Nat) {c:Code} (HJ:α0)  (h0:C HJ) (hs:B_ E (F HJ)) (hI:∀M w,I.h M w→(Ii HJ).h M w)
  (round:∀x0,C x0→Tr L n (F x0++K) (Ii x0) c (Exit.then (fun a w=>∃C2,(C C2∧μ C2<μ x0)∧St n (F C2++K) (Ii C2) a w) Q)):Tr L n E I (.loop c) Q:=
 Tr.Fy K hK (fun y:α0=>F y) (fun y=>Ii y) (fun y=>C y) (fun y=>μ y) HJ h0 hs hI fun y hy=>
  Tr.post (round y hy) fun e a w h=>by
   cases e<;>first|exact h|(obtain ⟨C2,h1,h2⟩:=h;exact ⟨C2,h1,h2⟩)
theorem Fin.IM {α0:Type} {E1:α0→Env} {I1:α0→CL} {C:α0→Prop} (x0:α0)  (hC:C x0) (hs:B_ E (E1 x0)) (hI:∀M w,I.h M w→(I1 x0).h M w):
  Fin n E I (Exit.then (fun a w=>∃C2,C C2∧St n (E1 C2) (I1 C2) a w) Q) .normal:=fun _ _ hst=>⟨x0,hC,hst.sub hs hI⟩
theorem Tr.Gy {α0:Type} (K:Env) (hK:B_ E K) (F:α0→Value→Env) (Ii:α0→Value→CL) (C:α0→Prop) (μ:α0→Nat) {c:Code} (HJ:α0) (Tx:Value) (h0:C HJ) (hs:B_ E (F HJ Tx)) (hI:∀M w,I.h M w→(Ii HJ Tx).h M w)
  (round:∀x0 v0,C x0→Tr L n (F x0 v0++K) (Ii x0 v0) c (Exit.then (fun a w=>∃C2 Ks,(C C2∧μ C2<μ x0)∧St n (F C2 Ks++K) (Ii C2 Ks) a w) Q)):Tr L n E I (.loop c) Q:=
 Tr.Fy K hK (fun y:α0×Value=>F y.1 y.2) (fun y=>Ii y.1 y.2) (fun y=>C y.1) (fun y=>μ y.1) (HJ,Tx) h0 hs hI fun y hy=>
  Tr.post (round y.1 y.2 hy) fun e a w h=>by
   cases e<;>first|exact h|(obtain ⟨C2,Ks,h1,h2⟩:=h;exact ⟨(C2,Ks),h1,h2⟩)
theorem Fin.C9 {α0:Type} {E1:α0→Value→Env} {I1:α0→Value→CL} {C:α0→Prop} (x0:α0) (v0:Value) (hC:C x0) (hs:B_ E (E1 x0 v0)) (hI:∀M w,I.h M w→(I1 x0 v0).h M w):
  Fin n E I (Exit.then (fun a w=>∃C2 Ks,C C2∧St n (E1 C2 Ks) (I1 C2 Ks) a w) Q) .normal:=fun _ _ hst=>⟨x0,v0,hC,hst.sub hs hI⟩
theorem Tr.CU {α0 α1:Type} (K:Env) (hK:B_ E K) (F:α0→α1→Env) (Ii:α0→α1→CL) (C:α0→α1→Prop) (μ:α0→α1→Nat) {c:Code} (HJ:α0) (KJ:α1)  (h0:C HJ KJ) (hs:B_ E (F HJ KJ)) (hI:∀M w,I.h M w→(Ii HJ KJ).h M w)
  (round:∀x0 x1,C x0 x1→Tr L n (F x0 x1++K) (Ii x0 x1) c (Exit.then (fun a w=>∃C2 EM,(C C2 EM∧μ C2 EM<μ x0 x1)∧St n (F C2 EM++K) (Ii C2 EM) a w) Q)):Tr L n E I (.loop c) Q:=
 Tr.Fy K hK (fun y:α0×α1=>F y.1 y.2) (fun y=>Ii y.1 y.2) (fun y=>C y.1 y.2) (fun y=>μ y.1 y.2) (HJ,KJ) h0 hs hI fun y hy=>
  Tr.post (round y.1 y.2 hy) fun e a w h=>by
   cases e<;>first|exact h|(obtain ⟨C2,EM,h1,h2⟩:=h;exact ⟨(C2,EM),h1,h2⟩)
theorem Fin.BW {α0 α1:Type} {E1:α0→α1→Env} {I1:α0→α1→CL} {C:α0→α1→Prop} (x0:α0) (x1:α1)  (hC:C x0 x1) (hs:B_ E (E1 x0 x1)) (hI:∀M w,I.h M w→(I1 x0 x1).h M w):
  Fin n E I (Exit.then (fun a w=>∃C2 EM,C C2 EM∧St n (E1 C2 EM) (I1 C2 EM) a w) Q) .normal:=fun _ _ hst=>⟨x0,x1,hC,hst.sub hs hI⟩
theorem Tr.Ty {α0 α1:Type} (K:Env) (hK:B_ E K) (F:α0→α1→Value→Env) (Ii:α0→α1→Value→CL) (C:α0→α1→Prop) (μ:α0→α1→Nat) {c:Code} (HJ:α0) (KJ:α1) (Tx:Value) (h0:C HJ KJ) (hs:B_ E (F HJ KJ Tx)) (hI:∀M w,I.h M w→(Ii HJ KJ Tx).h M w)
  (round:∀x0 x1 v0,C x0 x1→Tr L n (F x0 x1 v0++K) (Ii x0 x1 v0) c (Exit.then (fun a w=>∃C2 EM Ks,(C C2 EM∧μ C2 EM<μ x0 x1)∧St n (F C2 EM Ks++K) (Ii C2 EM Ks) a w) Q)):Tr L n E I (.loop c) Q:=
 Tr.Fy K hK (fun y:α0×α1×Value=>F y.1 y.2.1 y.2.2) (fun y=>Ii y.1 y.2.1 y.2.2) (fun y=>C y.1 y.2.1) (fun y=>μ y.1 y.2.1) (HJ,KJ,Tx) h0 hs hI fun y hy=>
  Tr.post (round y.1 y.2.1 y.2.2 hy) fun e a w h=>by
   cases e<;>first|exact h|(obtain ⟨C2,EM,Ks,h1,h2⟩:=h;exact ⟨(C2,EM,Ks),h1,h2⟩)
theorem Fin.RD {α0 α1:Type} {E1:α0→α1→Value→Env} {I1:α0→α1→Value→CL} {C:α0→α1→Prop} (x0:α0) (x1:α1) (v0:Value) (hC:C x0 x1) (hs:B_ E (E1 x0 x1 v0)) (hI:∀M w,I.h M w→(I1 x0 x1 v0).h M w):
  Fin n E I (Exit.then (fun a w=>∃C2 EM Ks,C C2 EM∧St n (E1 C2 EM Ks) (I1 C2 EM Ks) a w) Q) .normal:=fun _ _ hst=>⟨x0,x1,v0,hC,hst.sub hs hI⟩
theorem Tr.Dy {α0 α1 α2:Type} (K:Env) (hK:B_ E K) (F:α0→α1→α2→Env) (Ii:α0→α1→α2→CL) (C:α0→α1→α2→Prop) (μ:α0→α1→α2→Nat) {c:Code} (HJ:α0) (KJ:α1) (RE:α2)  (h0:C HJ KJ RE) (hs:B_ E (F HJ KJ RE)) (hI:∀M w,I.h M w→(Ii HJ KJ RE).h M w)
  (round:∀x0 x1 x2,C x0 x1 x2→Tr L n (F x0 x1 x2++K) (Ii x0 x1 x2) c (Exit.then (fun a w=>∃C2 EM HZ,(C C2 EM HZ∧μ C2 EM HZ<μ x0 x1 x2)∧St n (F C2 EM HZ++K) (Ii C2 EM HZ) a w) Q)):Tr L n E I (.loop c) Q:=
 Tr.Fy K hK (fun y:α0×α1×α2=>F y.1 y.2.1 y.2.2) (fun y=>Ii y.1 y.2.1 y.2.2) (fun y=>C y.1 y.2.1 y.2.2) (fun y=>μ y.1 y.2.1 y.2.2) (HJ,KJ,RE) h0 hs hI fun y hy=>
  Tr.post (round y.1 y.2.1 y.2.2 hy) fun e a w h=>by
   cases e<;>first|exact h|(obtain ⟨C2,EM,HZ,h1,h2⟩:=h;exact ⟨(C2,EM,HZ),h1,h2⟩)
theorem Fin.Cj {α0 α1 α2:Type} {E1:α0→α1→α2→Env} {I1:α0→α1→α2→CL} {C:α0→α1→α2→Prop} (x0:α0) (x1:α1) (x2:α2)  (hC:C x0 x1 x2) (hs:B_ E (E1 x0 x1 x2)) (hI:∀M w,I.h M w→(I1 x0 x1 x2).h M w):
  Fin n E I (Exit.then (fun a w=>∃C2 EM HZ,C C2 EM HZ∧St n (E1 C2 EM HZ) (I1 C2 EM HZ) a w) Q) .normal:=fun _ _ hst=>⟨x0,x1,x2,hC,hst.sub hs hI⟩
theorem Tr.Tz {α0 α1 α2:Type} (K:Env) (hK:B_ E K) (F:α0→α1→α2→Value→Env) (Ii:α0→α1→α2→Value→CL) (C:α0→α1→α2→Prop) (μ:α0→α1→α2→Nat) {c:Code} (HJ:α0) (KJ:α1) (RE:α2) (Tx:Value) (h0:C HJ KJ RE) (hs:B_ E (F HJ KJ RE Tx)) (hI:∀M w,I.h M w→(Ii HJ KJ RE Tx).h M w)
  (round:∀x0 x1 x2 v0,C x0 x1 x2→Tr L n (F x0 x1 x2 v0++K) (Ii x0 x1 x2 v0) c (Exit.then (fun a w=>∃C2 EM HZ Ks,(C C2 EM HZ∧μ C2 EM HZ<μ x0 x1 x2)∧St n (F C2 EM HZ Ks++K) (Ii C2 EM HZ Ks) a w) Q)):Tr L n E I (.loop c) Q:=
 Tr.Fy K hK (fun y:α0×α1×α2×Value=>F y.1 y.2.1 y.2.2.1 y.2.2.2) (fun y=>Ii y.1 y.2.1 y.2.2.1 y.2.2.2) (fun y=>C y.1 y.2.1 y.2.2.1) (fun y=>μ y.1 y.2.1 y.2.2.1) (HJ,KJ,RE,Tx) h0 hs hI fun y hy=>
  Tr.post (round y.1 y.2.1 y.2.2.1 y.2.2.2 hy) fun e a w h=>by
   cases e<;>first|exact h|(obtain ⟨C2,EM,HZ,Ks,h1,h2⟩:=h;exact ⟨(C2,EM,HZ,Ks),h1,h2⟩)
theorem Fin.Wn {α0 α1 α2:Type} {E1:α0→α1→α2→Value→Env} {I1:α0→α1→α2→Value→CL} {C:α0→α1→α2→Prop} (x0:α0) (x1:α1) (x2:α2) (v0:Value) (hC:C x0 x1 x2) (hs:B_ E (E1 x0 x1 x2 v0)) (hI:∀M w,I.h M w→(I1 x0 x1 x2 v0).h M w):
  Fin n E I (Exit.then (fun a w=>∃C2 EM HZ Ks,C C2 EM HZ∧St n (E1 C2 EM HZ Ks) (I1 C2 EM HZ Ks) a w) Q) .normal:=fun _ _ hst=>⟨x0,x1,x2,v0,hC,hst.sub hs hI⟩
theorem Tr.OM {α0 α1 α2 α3:Type} (K:Env) (hK:B_ E K) (F:α0→α1→α2→α3→Env) (Ii:α0→α1→α2→α3→CL) (C:α0→α1→α2→α3→Prop) (μ:α0→α1→α2→α3→Nat) {c:Code} (HJ:α0) (KJ:α1) (RE:α2) (gS:α3)  (h0:C HJ KJ RE gS) (hs:B_ E (F HJ KJ RE gS)) (hI:∀M w,I.h M w→(Ii HJ KJ RE gS).h M w)
  (round:∀x0 x1 x2 x3,C x0 x1 x2 x3→Tr L n (F x0 x1 x2 x3++K) (Ii x0 x1 x2 x3) c (Exit.then (fun a w=>∃C2 EM HZ WO,(C C2 EM HZ WO∧μ C2 EM HZ WO<μ x0 x1 x2 x3)∧St n (F C2 EM HZ WO++K) (Ii C2 EM HZ WO) a w) Q)):Tr L n E I (.loop c) Q:=
 Tr.Fy K hK (fun y:α0×α1×α2×α3=>F y.1 y.2.1 y.2.2.1 y.2.2.2) (fun y=>Ii y.1 y.2.1 y.2.2.1 y.2.2.2) (fun y=>C y.1 y.2.1 y.2.2.1 y.2.2.2) (fun y=>μ y.1 y.2.1 y.2.2.1 y.2.2.2) (HJ,KJ,RE,gS) h0 hs hI fun y hy=>
  Tr.post (round y.1 y.2.1 y.2.2.1 y.2.2.2 hy) fun e a w h=>by
   cases e<;>first|exact h|(obtain ⟨C2,EM,HZ,WO,h1,h2⟩:=h;exact ⟨(C2,EM,HZ,WO),h1,h2⟩)
theorem Fin.EN {α0 α1 α2 α3:Type} {E1:α0→α1→α2→α3→Env} {I1:α0→α1→α2→α3→CL} {C:α0→α1→α2→α3→Prop} (x0:α0) (x1:α1) (x2:α2) (x3:α3)  (hC:C x0 x1 x2 x3) (hs:B_ E (E1 x0 x1 x2 x3)) (hI:∀M w,I.h M w→(I1 x0 x1 x2 x3).h M w):
  Fin n E I (Exit.then (fun a w=>∃C2 EM HZ WO,C C2 EM HZ WO∧St n (E1 C2 EM HZ WO) (I1 C2 EM HZ WO) a w) Q) .normal:=fun _ _ hst=>⟨x0,x1,x2,x3,hC,hst.sub hs hI⟩
end
structure DS where
 l:List Int
 at_:Nat
 h:at_≤l.length
 h2:l.length≤1000000000
def DS.val (s:DS) (n:Int):Int:=match s.l[s.at_]? with|some x=>x % n|none=>0
def DS.C3 (s:DS):DS:=if h:s.at_<s.l.length then ⟨s.l,s.at_+1,h,s.h2⟩ else s
theorem DS.DD (s:DS) {n:Int} (hn:1≤n):0≤s.val n∧s.val n<n:=by
 unfold DS.val
 split
 · exact ⟨Int.emod_nonneg _ (by omega),Int.emod_lt_of_pos _ (by omega)⟩
 · omega
theorem DS.Wo {s:DS} (h:s.l.length≤s.at_) (n:Int):s.val n=0:=by
 unfold DS.val;rw [List.getElem?_eq_none h]
theorem DS.Wp {s:DS} (h:s.l.length≤s.at_):s.C3=s:=by
 unfold DS.C3;rw [dif_neg (by omega)]
theorem DS.ZG {s:DS} {x:Int} (h:s.l[s.at_]? =some x) (n:Int):s.val n=x % n:=by
 unfold DS.val;rw [h]
theorem DS.ZH {s:DS} (h:s.at_<s.l.length):s.C3=⟨s.l,s.at_+1,h,s.h2⟩:=by
 unfold DS.C3;rw [dif_pos h]
def JF (s:DS):List Pr:=[slice 1 (s.l.map fun n=>[int n]),int ((s.at_:Nat):Int)]
def ON (T:TypeId) (b:Nat) (s:DS):A0:=AD true b T (JF s)
def Hs (T:TypeId) (b:Nat):A0:=IK true b T (fun _:DS=>True) JF
def DS.of (s:DS) (l:List Int):Int:=(l[(s.val l.length).toNat]?).getD 0
theorem DS.P9 (s:DS) {l:List Int} (h:l≠[]):s.of l∈l:=by
 have h0:1≤(l.length:Int):=by
  have:=List.length_pos_iff.2 h
  omega
 have:=s.DD h0
 unfold DS.of
 rw [List.getElem?_eq_getElem (by omega)]
 exact List.getElem_mem _
section
variable {P:Program} {L:Lg P} {n:Fm} {fz:Nat} {E:Env} {M0:Av} {w0:World} {S:Nat→Prop} {rs:List A0}
theorem Tr.RF {Q:Exit→Act→World→Prop} {c:Code} (i:Nat) {T:TypeId} {b:Nat} (hi:rs[i]? =some (Hs T b)) (k:∀s,Tr L n E (Hp M0 w0 S (rs.set i (ON T b s))) c Q):Tr L n E (Hp M0 w0 S rs) c Q:=
 Tr.b8 i hi fun s _=>k s
theorem Fin.RF {Q:Exit→Act→World→Prop} {e:Exit} (i:Nat) {T:TypeId} {b:Nat} (hi:rs[i]? =some (Hs T b)) (k:∀s,Fin n E (Hp M0 w0 S (rs.set i (ON T b s))) Q e):Fin n E (Hp M0 w0 S rs) Q e:=by
 rintro a w ⟨M,h1,h2,h3,h4⟩
 have h4:A1 M0 w0 S rs M w:=h4
 obtain ⟨x,hx,hh⟩:=(h4.hold _ (List.mem_of_getElem? hi)).1
 exact k x a w ⟨M,h1,h2,h3,h4.CZ hi rfl rfl hh⟩
theorem Fin.E3 {Q:Exit→Act→World→Prop} {e:Exit} (i:Nat) {T:TypeId} {b:Nat} (s:DS) {ps:List Pr} (hi:rs[i]? =some (AD true b T ps)) (hp:ps=JF s) (k:Fin n E (Hp M0 w0 S (rs.set i (Hs T b))) Q e):Fin n E (Hp M0 w0 S rs) Q e:=
 Fin.JC i (fun _=>True) JF s trivial hi hp k
theorem Tr.E3 {Q:Exit→Act→World→Prop} {c:Code} (i:Nat) {T:TypeId} {b:Nat} (s:DS) {ps:List Pr} (hi:rs[i]? =some (AD true b T ps)) (hp:ps=JF s) (k:Tr L n E (Hp M0 w0 S (rs.set i (Hs T b))) c Q):Tr L n E (Hp M0 w0 S rs) c Q:=
 Tr.JC i (fun _=>True) JF s trivial hi hp k
theorem TO.ah {ops:Array Oper} {l:List Oper} {Q:Exit→Act→World→Prop} (s j:Nat) {v:Value} {f:Value→A0} (g:Nat→A0) (hs:E.lookup s=some (BB v (Cp.ex fun b=>ptr b 0))) (hi:rs[j]? =some (f v)) (hf:∀b,f (.pointer (some ⟨b,0,none⟩))=g b)
  (k:∀b,TO P n ops l ((s,ptr b 0)::E) (Hp M0 w0 S (rs.set j (g b))) Q):TO P n ops l E (Hp M0 w0 S rs) Q:=by
 intro k0 hl a w hst
 obtain ⟨M,h1,h2,he,h4⟩:=hst
 obtain ⟨h5,b,h6⟩:=he s _ hs
 have hv:v= .pointer (some ⟨b,0,none⟩):=by rw [←h5];exact h6
 have hj:rs.set j (g b)=rs:=by
  have hjl:j<rs.length:=by rcases Nat.lt_or_ge j rs.length with h|h;exact h;rw [List.getElem?_eq_none h] at hi;cases hi
  rw [←hf b,←hv]
  rw [List.getElem?_eq_getElem hjl] at hi
  simp at hi
  rw [←hi,List.set_getElem_self]
 refine k b k0 hl a w ⟨M,h1,h2,?_,by rw [hj];exact h4⟩
 intro t q hq
 simp only [List.lookup] at hq
 by_cases ht:t=s
 · subst ht;simp at hq;subst hq;exact h6
 · rw [show (t==s)=false by simpa using ht] at hq;exact he t q hq
def Kt (r:ResultVar) (a:Act):Sem Value:=match r with| .tmp t=>pure (a.tmps.getD t undef)| .cell c t=>do loadVar t (←asAddr (a.tmps.getD c undef))
def A6 (P:Program) (E:Env) (rs:List A0) (r:ResultVar) (p:Pr):Prop:=∀(M:Av) (w:World) (a:Act),Ek M w E a→(∀q∈rs,q.h M w)→∃v,(Kt r a).run P w= .ok v w∧p.h M w v
theorem A6.tmp {t:Tmp} {q p:Pr} (h:E.lookup t=some q) (hl:Pr.le q p):A6 P E rs (.tmp t) p:=fun _ _ _ he _=>⟨_,rfl,hl _ _ _ (he _ _ h)⟩
theorem A6.cell (i:Nat) {c:Tmp} {t T:TypeId} {b m:Nat} {new:Bool} {ps:List Pr} {p:Pr} (h:E.lookup c=some (ptr b 0)) (hi:rs[i]? =some (AD new b T ps)) (ht:GM P t=true) (hz:BJ P t=some m) (hm:ps.length=m) (hl:Pr.le (agg ps) p):A6 P E rs (.cell c t) p:=by
 intro M w a he hr
 obtain ⟨v,h1,h2⟩:=Ts ht hz hm (hr _ (List.mem_of_getElem? hi))
 refine ⟨v,?_,hl _ _ _ h2⟩
 have hc:a.tmps.getD c undef= .pointer (some ⟨b,0,none⟩):=he _ _ h
 unfold Kt
 simp only [hc,asAddr]
 simpa [Sem.run_bind] using h1
theorem Ht (g:Func) (a:Act):results g a.tmps=(do let vs ←g.results.mapM (fun r=>Kt r a);pure (if h:vs.size=1 then vs[0] else .tuple vs)):=by
 have:(fun r:ResultVar=>Kt r a)=(fun| .tmp t=>pure (a.tmps.getD t undef)| .cell c t=>do loadVar t (←asAddr (a.tmps.getD c undef))):=by
  funext r;cases r<;>rfl
 rw [this];rfl
theorem results1 {g:Func} {r:ResultVar} {a:Act} {w:World} {v:Value} (hr:g.results= #[r]) (h:(Kt r a).run P w= .ok v w):(results g a.tmps).run P w= .ok v w:=by
 rw [Ht,hr];simp [Sem.run_bind,h]
theorem results2 {g:Func} {r r':ResultVar} {a:Act} {w:World} {v v':Value} (hr:g.results= #[r,r']) (h:(Kt r a).run P w= .ok v w) (h':(Kt r' a).run P w= .ok v' w):(results g a.tmps).run P w= .ok (.tuple #[v,v']) w:=by
 rw [Ht,hr];simp [Sem.run_bind,h,h']
theorem A1.NT {M:Av} {w:World}:∀{pre:List A0},A1 M0 w0 S (pre++rs) M w→A1 M0 w0 S rs M w
 |[],h=>h
 |_::_,h=>A1.NT h.Kn
variable {g:Func} {M1:Av} {w1:World}
theorem Fin.FX {r:ResultVar} {p q:Pr} (hr:g.results= #[r]) (h:A6 P E rs r q) (hl:Pr.le q p):Fin ⟨fz,[]⟩ E (Hp M0 w0 Je rs) (bodyPost P g (OC M0 w0 p)) .ret:=by
 rintro a w ⟨M,_,hd,he,hi⟩
 obtain ⟨v,hv,hp⟩:=h M w a he (fun q hq=>(hi.hold q hq).1)
 obtain ⟨h1,h2⟩:=Ba.Cz M0 w0 M w hi
 exact ⟨hd,v,results1 hr hv,_,rfl,p.st _ _ _ _ _ (Ext.less h1) (hl _ _ _ hp),h2⟩
theorem Fin.Ku {r r':ResultVar} {p q q':Pr} (hr:g.results= #[r,r']) (h:A6 P E rs r q) (h':A6 P E rs r' q') (hl:Pr.le (DT [q,q']) p):Fin ⟨fz,[]⟩ E (Hp M0 w0 Je rs) (bodyPost P g (OC M0 w0 p)) .ret:=by
 rintro a w ⟨M,_,hd,he,hi⟩
 obtain ⟨v,hv,hp⟩:=h M w a he (fun q hq=>(hi.hold q hq).1)
 obtain ⟨v',cH,KE⟩:=h' M w a he (fun q hq=>(hi.hold q hq).1)
 obtain ⟨h1,h2⟩:=Ba.Cz M0 w0 M w hi
 exact ⟨hd,_,results2 hr hv cH,_,rfl,p.st _ _ _ _ _ (Ext.less h1) (hl _ _ _ ⟨[_,_],rfl,hp,KE,trivial⟩),h2⟩
theorem Fin.E4 (pre:List A0) {r:ResultVar} {R:A0} {R':Value→A0} {p q:Pr} (hr:g.results= #[r]) (h:A6 P E (pre++R::Ai M1 w1::rs) r q) (hl:Pr.le q p) (hR:∀M w v,q.h M w v→R' v=R):
  Fin ⟨fz,[]⟩ E (Hp M0 w0 S (pre++R::Ai M1 w1::rs)) (bodyPost P g (Jm M0 w0 S rs M1 w1 p R')) .ret:=by
 rintro a w ⟨M,_,hd,he,hi⟩
 obtain ⟨v,hv,hp⟩:=h M w a he (fun q hq=>(hi.hold q hq).1)
 obtain ⟨h1,h2⟩:=SF (A1.NT hi)
 exact ⟨hd,v,results1 hr hv,_,M,rfl,hl _ _ _ hp,h1,by rw [hR _ _ _ hp];exact h2⟩
theorem Fin.De (pre:List A0) {r r':ResultVar} {R:A0} {p q q':Pr} (hr:g.results= #[r,r']) (h:A6 P E (pre++R::Ai M1 w1::rs) r q) (h':A6 P E (pre++R::Ai M1 w1::rs) r' q') (hl:Pr.le (DT [q,q']) p):
  Fin ⟨fz,[]⟩ E (Hp M0 w0 S (pre++R::Ai M1 w1::rs)) (bodyPost P g (Jm M0 w0 S rs M1 w1 p (fun _=>R))) .ret:=by
 rintro a w ⟨M,_,hd,he,hi⟩
 obtain ⟨v,hv,hp⟩:=h M w a he (fun q hq=>(hi.hold q hq).1)
 obtain ⟨v',cH,KE⟩:=h' M w a he (fun q hq=>(hi.hold q hq).1)
 obtain ⟨h1,h2⟩:=SF (A1.NT hi)
 exact ⟨hd,_,results2 hr hv cH,_,M,rfl,hl _ _ _ ⟨[_,_],rfl,hp,KE,trivial⟩,h1,h2⟩
theorem BD {α:Type} {p:α→Pr} {q:Pr} (x:α) (h:Pr.le q (p x)):Pr.le q (Cp.ex p):=fun M w v hv=>⟨x,h M w v hv⟩
theorem Aj {φ:Prop} {p q:Pr} (hφ:φ) (h:Pr.le q p):Pr.le q (fact φ p):=fun M w v hv=>⟨hφ,h M w v hv⟩
end
section
variable {P:Program} {L:Lg P} {n:Fm} {fz:Nat} {E:Env} {M0:Av} {w0:World} {S:Nat→Prop} {rs:List SR} {o:Oper}
theorem MN {t:TypeId} {x:Operand} {q:Tmp} {j:Nat} {new:Bool} {b off:Nat} {T:TypeId} {ps:List Pr} {p:Pr} [One p] (hg:o.guard=none) (hd:o.dst=none) (ho:o.op= .store t x (.tmp q)) (hx:VL E x (ptr b off)) (hy:E.lookup q=some p)
  (hz:BJ P t=some 1) (hl:off+1≤ps.length):Du P M0 w0 S n j (SR.c (AD new b T ps)) ⟨q,fun v=>AD new b T (ps.take off++[BB v p]++ps.drop (off+1))⟩ o E any:=by
 refine ⟨hg,fun M w a rs hsz he hI hj=> ?_⟩
 have h1:a.eval x= .pointer (some ⟨b,off,none⟩):=hx.ev he (by simp [ho,Op.operands])
 have hv:VL E (.tmp q) p:=⟨_,hy,Pr.le_refl _⟩
 have hp:=hv.ev he (show (Operand.tmp q)∈o.op.operands.toList by simp [ho,Op.operands])
 obtain ⟨h2,h3⟩:=(VL.le hv (AO p)).ev he (show (Operand.tmp q)∈o.op.operands.toList by simp [ho,Op.operands])
 obtain ⟨⟨_,cs,h4,h5,h6⟩,_⟩:=hI.hold _ (List.mem_of_getElem? hj)
 have bZ:=h5.length
 have aW:=h2.length
 have hone:(a.eval (.tmp q)).cells= #[a.eval (.tmp q)]:=(One.one (p:=p) M w _ hp).1
 have h2':HL M w [BB (a.eval (.tmp q)) p] (a.eval (.tmp q)).cells.toList:=by rw [hone];exact ⟨⟨rfl,hp⟩,trivial⟩
 have hcells:(a.eval (.tmp q)).cells.size=1:=by rw [hone];rfl
 have hrun:(storeCells ⟨b,off,none⟩ (a.eval (.tmp q)).cells.toList 0).run P w= .ok () (w.setRow b (cs.take off++(a.eval (.tmp q)).cells.toList++cs.drop (off+1)).toArray):=by
  have:=run_storeCells_at (P:=P) b off T (a.eval (.tmp q)).cells.toList 0 cs.toArray w h4 (by simp [hcells];omega) h3
  simpa [hcells] using this
 have DO:(execOp a.eval o).run P w= .ok .skip (w.setRow b (cs.take off++(a.eval (.tmp q)).cells.toList++cs.drop (off+1)).toArray):=by
  simp [execOp,ho,h1,Instr.storeAt,Instr.sureAddr,storeVar,B1 hz,hcells,hrun]
 rw [DO]
 obtain ⟨h7, h8⟩ := A1.write (qs := ps.take off ++ [BB (a.eval (.tmp q)) p] ++ ps.drop (off + 1)) (cs := cs.take off ++ (a.eval (.tmp q)).cells.toList ++ cs.drop (off + 1)) hI hj ((((h5.take off).app h2')).app (h5.drop (off + 1)))
  (fun c hc=>by
   simp only [List.mem_append] at hc
   rcases hc with (hc|hc)|hc
   · exact h6 c (List.mem_of_mem_take hc)
   · exact h3 c hc
   · exact h6 c (List.mem_of_mem_drop hc))
 refine ⟨M,trivial,h8,?_⟩
 have hput:SR.at_ (a.put o.dst undef) ⟨q,fun v=>AD new b T (ps.take off++[BB v p]++ps.drop (off+1))⟩=AD new b T (ps.take off++[BB (a.eval (.tmp q)) p]++ps.drop (off+1)):=by rw [hd];rfl
 rw [hput];exact h7
theorem T0 {j s:Nat} {f:Value→A0} (hR:rs[j]? =some ⟨s,f⟩) (a:Act):(rs.set j (SR.c (f (a.tmps.getD s undef)))).map (·.at_ a)=rs.map (·.at_ a):=by
 rw [List.map_set]
 apply List.ext_getElem?
 intro i
 rw [List.getElem?_set]
 by_cases hij:j=i
 ·
  subst hij
  rw [if_pos rfl]
  split
  · rw [List.getElem?_map,hR];rfl
  ·
   rename_i hge
   rw [List.getElem?_eq_none (by omega)]
 · rw [if_neg hij]
theorem BP.YY {Q:Exit→Act→World→Prop} (j i s:Nat) {f g:Value→A0} {p:Pr} (hR:rs[j]? =some ⟨s,f⟩) (mY:rs[i]? =some ⟨s,g⟩) (hij:j≠i) (hs:E.lookup s=some p) (k:∀v,BP n M0 w0 S ((s,BB v p)::E) ((rs.set j (SR.c (f v))).set i (SR.c (g v))) Q):BP n M0 w0 S E rs Q:=by
 rintro a w ⟨M,h1,h2,h3,h4⟩
 refine k (a.tmps.getD s undef) a w ⟨M,h1,h2,?_,?_⟩
 ·
  intro t q hq
  simp only [List.lookup] at hq
  by_cases ht:t=s
  · subst ht;simp only [beq_self_eq_true,Option.some.injEq] at hq;subst hq;exact ⟨rfl,h3 t p hs⟩
  · rw [show (t==s)=false by simpa using ht] at hq;exact h3 t q hq
 · rw [T0 (rs:=rs.set j (SR.c (f (a.tmps.getD s undef)))) (j:=i) (s:=s) (f:=g) (by rw [List.getElem?_set,if_neg hij];exact mY) a,T0 hR a];exact h4
end
section
variable {P:Program} {L:Lg P} {n:Fm} {fz:Nat} {E:Env} {M0:Av} {w0:World} {S:Nat→Prop} {rs:List A0}
theorem St.Fj (j:Nat) {new:Bool} {b:Nat} {T:TypeId} {ps qs:List Pr} (hi:rs[j]? =some (AD new b T ps)) (h:I6 ps qs) {a:Act} {w:World} (hs:St n E (Hp M0 w0 S rs) a w):St n E (Hp M0 w0 S (rs.set j (AD new b T qs))) a w:=by
 obtain ⟨M,h1,h2,h3,h4⟩:=hs
 have h4:A1 M0 w0 S rs M w:=h4
 obtain ⟨h5,cs,h6,h7,h8⟩:=(h4.hold _ (List.mem_of_getElem? hi)).1
 exact ⟨M,h1,h2,h3,h4.CZ hi rfl rfl ⟨h5,cs,h6,h.hl h7,h8⟩⟩
theorem Tr.Fj {Q:Exit→Act→World→Prop} {c:Code} (j:Nat) {new:Bool} {b:Nat} {T:TypeId} {ps:List Pr} (qs:List Pr) (hi:rs[j]? =some (AD new b T ps)) (h:I6 ps qs) (k:Tr L n E (Hp M0 w0 S (rs.set j (AD new b T qs))) c Q):Tr L n E (Hp M0 w0 S rs) c Q:=
 Tr.conv (fun _ _ hs=>hs.Fj j hi h) k
theorem Fin.Fj {Q:Exit→Act→World→Prop} {e:Exit} (j:Nat) {new:Bool} {b:Nat} {T:TypeId} {ps:List Pr} (qs:List Pr) (hi:rs[j]? =some (AD new b T ps)) (h:I6 ps qs) (k:Fin n E (Hp M0 w0 S (rs.set j (AD new b T qs))) Q e):Fin n E (Hp M0 w0 S rs) Q e:=
 Fin.conv (fun _ _ hs=>hs.Fj j hi h) k
end
section
variable {P:Program} {L:Lg P} {n:Fm} {fz:Nat} {E:Env} {M0:Av} {w0:World} {S:Nat→Prop} {rs:List A0}
abbrev lP (m b:Nat):Value:= .slice (some ⟨b,0,none⟩) m m
theorem TO.RG {ops:Array Oper} {o:Oper} {r:List Oper} {Q:Exit→Act→World→Prop} {d m gT:Nat} {t e:TypeId} {x y:Operand} {z:Value} (hg:o.guard=none) (hd:o.dst=some d) (hn:d<n) (ho:o.op= .makeSlice t x y) (ht:P.underlying t=some (.slice e))
  (hs:BJ P e=some 1) (hby:CH P e=some gT) (hz:Br P e=some [z]) (h1:z.oneCell'=true) (hx:VL E x (int ((m:Nat):Int))) (hy:VL E y (int ((m:Nat):Int))) (hm:m≤maxLen) (hb:gT*m≤281474976710656)
  (k:∀b,TO P n ops r ((d,is (lP m b))::E) (Hp M0 w0 S (AD true b e ((List.replicate m z).map is)::rs)) Q):TO P n ops (o::r) E (Hp M0 w0 S rs) Q:=
 TO.Pz hg fun K M w a hsz hdf he hI hK=>by
  have hx1:a.eval x= .int .i64 m:=hx.ev (o:=o) (Bq he) (by simp [ho,Op.operands])
  have hy1:a.eval y= .int .i64 m:=hy.ev (o:=o) (Bq he) (by simp [ho,Op.operands])
  have hi:∃i,P.info? e=some i∧i.size=1∧i.bytes=gT∧∃z',i.zero=some z'∧z'.cells= #[z]:=by
   unfold BJ at hs;unfold CH at hby;unfold Br at hz
   cases hi:P.info? e with
   |none=>rw [hi] at hs;cases hs
   |some i=>
    rw [hi] at hs hby hz
    simp at hs hby hz
    obtain ⟨z',h2,h3⟩:=hz
    exact ⟨i,rfl,hs,hby,z',h2,by rw [←Array.toList_inj,h3]⟩
  obtain ⟨i,hi,hi1,hi2,z',KD,Tj⟩:=hi
  have hmk:madeCells z'.cells m=(List.replicate m z).toArray:=by
   rw [Tj]
   apply Array.ext
   · simp [madeCells]
   ·
    intro j h1 h2
    simp [madeCells,Nat.mod_one]
  have hrun:=run_make (P:=P) w t e i z' ht hi KD .i64 .i64 (m:Int) (m:Int) (by omega) (Int.le_refl _) (by rw [hi2];have h0:((gT*m:Nat):Int)≤281474976710656:=Int.ofNat_le.2 hb;rw [←Int.natCast_mul];exact h0) (by unfold maxLen at hm;omega)
  rw [hi1] at hrun
  simp only [Int.toNat_natCast,Nat.mul_one] at hrun
  rw [hmk] at hrun
  refine TO.val (v:=lP m w.heap.size) (w':=w.alloc (.cells (List.replicate m z).toArray e)) ?_ ?_
  · simp [execOp,ho,hx1,hy1,hrun]
  ·
   obtain ⟨h2,h3⟩:=A1.add (T:=e) hI (Kj M w (List.replicate m z)) (fun c hc=>by rw [List.eq_of_mem_replicate hc];exact h1)
   refine hK _ _ _ _ (k w.heap.size) ⟨_,by rw [Bn];exact hsz,by rw [put_defers];exact hdf,?_,h2⟩
   intro s p hp
   simp only [List.lookup] at hp
   by_cases hs:s=d
   · subst hs;simp at hp;subst hp;rw [hd,Bf (by rw [hsz];exact hn)];rfl
   ·
    rw [show (s==d)=false by simpa using hs] at hp
    rw [hd,Bm hs]
    exact p.st _ _ _ _ _ h3 (he s p hp)
theorem AA {I:CL} {o:Oper} {t e:TypeId} {x y:Operand} {k:IntKind} {i:Int} {len cap sz b off:Nat} (ho:o.op= .indexAddr t x y) (ht:P.underlying t=some (.slice e)) (hz:BJ P e=some sz) (hx:VL E x (is (.slice (some ⟨b,off,none⟩) len cap))) (hy:VL E y (is (.int k i)))
  (h0:0≤i) (hl:i<len):Ab P I o E (ptr b (off+i.toNat*sz)):=
 Ab.same fun M w a he _=>by
  have h1:a.eval x=_:=hx.ev he (by simp [ho,Op.operands])
  have h5:a.eval y= .int k i:=hy.ev he (by simp [ho,Op.operands])
  refine ⟨_,?_,rfl⟩
  simp [execOp,ho,h1,h5,Instr.indexAt,asIntOf,run_underlying ht,B1 hz,h0,hl,EU]
theorem Tr.perm {Q:Exit→Act→World→Prop} {c:Code} {rs':List A0} (hp:rs.Perm rs') (k:Tr L n E (Hp M0 w0 S rs') c Q):Tr L n E (Hp M0 w0 S rs) c Q:=
 Tr.conv (fun _ _ ⟨M,h1,h2,h3,h4⟩=>⟨M,h1,h2,h3,A1.perm hp h4⟩) k
theorem Fin.perm {Q:Exit→Act→World→Prop} {ex:Exit} {rs':List A0} (hp:rs.Perm rs') (k:Fin n E (Hp M0 w0 S rs') Q ex):Fin n E (Hp M0 w0 S rs) Q ex:=
 Fin.conv (fun _ _ ⟨M,h1,h2,h3,h4⟩=>⟨M,h1,h2,h3,A1.perm hp h4⟩) k
theorem A1.RH {b:Nat} {T:TypeId} {ps:List Pr} {M:Av} {w:World} (h4:A1 M0 w0 S (AD true b T ps::rs) M w):∃M',A1 M0 w0 S rs M' w∧Ext M w M' w∧Row M' w ⟨b,0,none⟩ 0 ps:=by
 obtain ⟨⟨hm,cs,hh,hc,hone⟩,WM⟩:=h4.hold _ (List.mem_cons_self ..)
 obtain ⟨hlt,hnew⟩:=WM b rfl
 have hnew:w0.heap.size≤b:=by simpa [AD] using hnew
 have he:Ext M w (fun b' o=>M b' o∧b'≠b) w:=Ext.less fun _ _ h=>h.1
 obtain ⟨iy,iz⟩:=List.pairwise_cons.1 h4.nd
 refine ⟨fun b' o=>M b' o∧b'≠b,⟨h4.m0,fun b' o' hm'=>⟨h4.m b' o' hm',fun e=> ?_⟩,h4.os,h4.tape,h4.output,h4.size,h4.block,fun b' o' hm'=>h4.bd b' o' hm'.1,fun r hr=> ?_,iz⟩,he,fun j p hp=> ?_⟩
 ·
  subst e
  have:=h4.m0 _ _ hm'
  omega
 ·
  obtain ⟨h5,h6⟩:=h4.hold r (List.mem_cons_of_mem _ hr)
  exact ⟨r.st _ _ _ _ he (fun b' hb'=>⟨rfl,fun o' hmo=>⟨hmo,fun e=>iy r hr b rfl (by rw [←e];exact hb')⟩⟩) h5,h6⟩
 ·
  obtain ⟨u,hu,Y6⟩:=hc.at_ j p hp
  refine ⟨u,?_,fun hx=>hx.2 rfl,hone u (List.mem_of_getElem? hu),p.st _ _ _ _ _ he Y6⟩
  rw [show Addr.add ⟨b,0,none⟩ (0+j)=⟨b,j,none⟩ by unfold Addr.add;split<;>simp_all]
  simp [World.cell?,hh,hu]
end
end Cp
namespace Go.Proofs.YtgilhkjlfongoaaGreat
open Go Cp
theorem mixed:Tryz.prog.follows .mixedOrders=true:=by kernel_rfl
theorem z1:Br Tryz.prog 1=some [.nilFunc]:=by kernel_rfl
theorem z2:Br Tryz.prog 2=some [.int .i64 0]:=by kernel_rfl
theorem A4:BJ Tryz.prog 3=some 1:=by kernel_rfl
theorem Au:Fx Tryz.prog 3=true:=by kernel_rfl
theorem MO:CH Tryz.prog 3=some 8:=by kernel_rfl
theorem gU:([.int .i64 0]:List Value).all (·.oneCell')=true:=by kernel_rfl
theorem z3:Br Tryz.prog 3=some [.int .i64 0]:=by kernel_rfl
theorem cI:BJ Tryz.prog 4=some 1:=by kernel_rfl
theorem i6:Fx Tryz.prog 4=true:=by kernel_rfl
theorem mZ:CH Tryz.prog 4=some 1:=by kernel_rfl
theorem z4:Br Tryz.prog 4=some [.bool false]:=by kernel_rfl
theorem me:BJ Tryz.prog 5=some 1:=by kernel_rfl
theorem i7:Fx Tryz.prog 5=true:=by kernel_rfl
theorem HV:BJ Tryz.prog 9=some 1:=by kernel_rfl
theorem Fk:Fx Tryz.prog 9=true:=by kernel_rfl
theorem TS:CH Tryz.prog 9=some 16:=by kernel_rfl
theorem mg:([.string (ByteArray.mk #[])]:List Value).all (·.oneCell')=true:=by kernel_rfl
theorem z9:Br Tryz.prog 9=some [.string (ByteArray.mk #[])]:=by kernel_rfl
theorem T2:BJ Tryz.prog 22=some 1:=by kernel_rfl
theorem MP:Fx Tryz.prog 22=true:=by kernel_rfl
theorem Fl:BJ Tryz.prog 24=some 2:=by kernel_rfl
theorem E5:GM Tryz.prog 24=true:=by kernel_rfl
theorem cJ:CH Tryz.prog 24=some 16:=by kernel_rfl
theorem cL:∀ps,Tryz.prog.built 24 ps=Instr.fill (fun i=>(#[(0,1),(1,1)]:Array (Nat×Nat))[i]?) ((List.replicate 2 (.int .i64 0)):List Value).toArray ps:=by intro ps;kernel_rfl
theorem ZI:((List.replicate 2 (.int .i64 0)):List Value).all (·.oneCell')=true:=by kernel_rfl
theorem z24:Br Tryz.prog 24=some (List.replicate 2 (.int .i64 0)):=by kernel_rfl
theorem ZJ:A2 Tryz.prog 24 0=some 0:=by kernel_rfl
theorem ZK:A2 Tryz.prog 24 1=some 1:=by kernel_rfl
theorem AY:BJ Tryz.prog 26=some 11:=by kernel_rfl
theorem BE:GM Tryz.prog 26=true:=by kernel_rfl
theorem Eb:CH Tryz.prog 26=some 112:=by kernel_rfl
theorem cM:∀ps,Tryz.prog.built 26 ps=Instr.fill (fun i=>(#[(0,1),(1,1),(2,1),(3,1),(4,1),(5,1),(6,1),(7,2),(9,1),(10,1)]:Array (Nat×Nat))[i]?) ([.int .i64 0,.string (ByteArray.mk #[]),.int .i64 0,.int .i64 0,.int .i64 0,.int .i64 0,.string (ByteArray.mk #[]),.int .i64 0,.int .i64 0,.int .i64 0,.string (ByteArray.mk #[])]:List Value).toArray ps:=by intro ps;kernel_rfl
theorem JG:([.int .i64 0,.string (ByteArray.mk #[]),.int .i64 0,.int .i64 0,.int .i64 0,.int .i64 0,.string (ByteArray.mk #[]),.int .i64 0,.int .i64 0,.int .i64 0,.string (ByteArray.mk #[])]:List Value).all (·.oneCell')=true:=by kernel_rfl
theorem EO:Br Tryz.prog 26=some [.int .i64 0,.string (ByteArray.mk #[]),.int .i64 0,.int .i64 0,.int .i64 0,.int .i64 0,.string (ByteArray.mk #[]),.int .i64 0,.int .i64 0,.int .i64 0,.string (ByteArray.mk #[])]:=by kernel_rfl
theorem ZL:A2 Tryz.prog 26 0=some 0:=by kernel_rfl
theorem T3:A2 Tryz.prog 26 1=some 1:=by kernel_rfl
theorem P_:A2 Tryz.prog 26 2=some 2:=by kernel_rfl
theorem NU:A2 Tryz.prog 26 3=some 3:=by kernel_rfl
theorem ZM:A2 Tryz.prog 26 4=some 4:=by kernel_rfl
theorem Hu:A2 Tryz.prog 26 5=some 5:=by kernel_rfl
theorem ZN:A2 Tryz.prog 26 6=some 6:=by kernel_rfl
theorem Hv:A2 Tryz.prog 26 7=some 7:=by kernel_rfl
theorem Hw:A2 Tryz.prog 26 8=some 9:=by kernel_rfl
theorem ZO:A2 Tryz.prog 26 9=some 10:=by kernel_rfl
theorem IP:Fx Tryz.prog 31=true:=by kernel_rfl
theorem i9:BJ Tryz.prog 53=some 1:=by kernel_rfl
theorem cN:Fx Tryz.prog 53=true:=by kernel_rfl
theorem GR:BJ Tryz.prog 55=some 4:=by kernel_rfl
theorem Gj:GM Tryz.prog 55=true:=by kernel_rfl
theorem i_:CH Tryz.prog 55=some 80:=by kernel_rfl
theorem cO:∀ps,Tryz.prog.built 55 ps=Instr.fill (fun i=>(#[(0,1),(1,1),(2,1),(3,1)]:Array (Nat×Nat))[i]?) ([.int .i64 0,.slice none 0 0,.slice none 0 0,.slice none 0 0]:List Value).toArray ps:=by intro ps;kernel_rfl
theorem QA:([.int .i64 0,.slice none 0 0,.slice none 0 0,.slice none 0 0]:List Value).all (·.oneCell')=true:=by kernel_rfl
theorem ZP:Br Tryz.prog 55=some [.int .i64 0,.slice none 0 0,.slice none 0 0,.slice none 0 0]:=by kernel_rfl
theorem ZQ:A2 Tryz.prog 55 0=some 0:=by kernel_rfl
theorem T4:A2 Tryz.prog 55 1=some 1:=by kernel_rfl
theorem T5:A2 Tryz.prog 55 2=some 2:=by kernel_rfl
theorem Gz:A2 Tryz.prog 55 3=some 3:=by kernel_rfl
theorem cQ:Fx Tryz.prog 63=true:=by kernel_rfl
theorem jA:∀ps,Tryz.prog.built 80 ps=Instr.fill (fun i=>(#[(0,1),(1,1)]:Array (Nat×Nat))[i]?) ([.slice none 0 0,.int .i64 0]:List Value).toArray ps:=by intro ps;kernel_rfl
theorem jB:([.slice none 0 0,.int .i64 0]:List Value).all (·.oneCell')=true:=by kernel_rfl
theorem ZR:A2 Tryz.prog 80 0=some 0:=by kernel_rfl
theorem ZS:A2 Tryz.prog 80 1=some 1:=by kernel_rfl
theorem Kv:BJ Tryz.prog 107=some 6:=by kernel_rfl
theorem Hx:GM Tryz.prog 107=true:=by kernel_rfl
theorem cR:∀ps,Tryz.prog.built 107 ps=Instr.fill (fun i=>(#[(0,1),(1,1),(2,1),(3,1),(4,2)]:Array (Nat×Nat))[i]?) ([.string (ByteArray.mk #[]),.string (ByteArray.mk #[]),.int .i64 0,.int .i64 0,.int .i64 0,.int .i64 0]:List Value).toArray ps:=by intro ps;kernel_rfl
theorem T6:([.string (ByteArray.mk #[]),.string (ByteArray.mk #[]),.int .i64 0,.int .i64 0,.int .i64 0,.int .i64 0]:List Value).all (·.oneCell')=true:=by kernel_rfl
theorem z107:Br Tryz.prog 107=some [.string (ByteArray.mk #[]),.string (ByteArray.mk #[]),.int .i64 0,.int .i64 0,.int .i64 0,.int .i64 0]:=by kernel_rfl
theorem Wq:A2 Tryz.prog 107 1=some 1:=by kernel_rfl
theorem Wr:A2 Tryz.prog 107 2=some 2:=by kernel_rfl
theorem Ws:A2 Tryz.prog 107 3=some 3:=by kernel_rfl
theorem Wt:A2 Tryz.prog 107 4=some 4:=by kernel_rfl
theorem AH:BJ Tryz.prog 110=some 8:=by kernel_rfl
theorem Aw:GM Tryz.prog 110=true:=by kernel_rfl
theorem G0:CH Tryz.prog 110=some 80:=by kernel_rfl
theorem cT:∀ps,Tryz.prog.built 110 ps=Instr.fill (fun i=>(#[(0,1),(1,1),(2,1),(3,2),(5,1),(6,1),(7,1)]:Array (Nat×Nat))[i]?) ([.int .i64 0,.string (ByteArray.mk #[]),.int .i64 0,.int .i64 0,.int .i64 0,.int .i64 0,.string (ByteArray.mk #[]),.int .i64 0]:List Value).toArray ps:=by intro ps;kernel_rfl
theorem Kw:([.int .i64 0,.string (ByteArray.mk #[]),.int .i64 0,.int .i64 0,.int .i64 0,.int .i64 0,.string (ByteArray.mk #[]),.int .i64 0]:List Value).all (·.oneCell')=true:=by kernel_rfl
theorem FN:Br Tryz.prog 110=some [.int .i64 0,.string (ByteArray.mk #[]),.int .i64 0,.int .i64 0,.int .i64 0,.int .i64 0,.string (ByteArray.mk #[]),.int .i64 0]:=by kernel_rfl
theorem Wu:A2 Tryz.prog 110 1=some 1:=by kernel_rfl
theorem Wv:A2 Tryz.prog 110 2=some 2:=by kernel_rfl
theorem Ww:A2 Tryz.prog 110 3=some 3:=by kernel_rfl
theorem Wx:A2 Tryz.prog 110 4=some 5:=by kernel_rfl
theorem Wy:A2 Tryz.prog 110 5=some 6:=by kernel_rfl
theorem Wz:A2 Tryz.prog 110 6=some 7:=by kernel_rfl
theorem Kx:BJ Tryz.prog 121=some 2:=by kernel_rfl
theorem T7:GM Tryz.prog 121=true:=by kernel_rfl
theorem YZ:CH Tryz.prog 121=some 16:=by kernel_rfl
theorem Ya:∀ps,Tryz.prog.built 121 ps=Instr.fill (fun i=>(#[(0,1),(1,1)]:Array (Nat×Nat))[i]?) ((List.replicate 2 (.int .i64 0)):List Value).toArray ps:=by intro ps;kernel_rfl
theorem T8:((List.replicate 2 (.int .i64 0)):List Value).all (·.oneCell')=true:=by kernel_rfl
theorem W0:Br Tryz.prog 121=some (List.replicate 2 (.int .i64 0)):=by kernel_rfl
theorem ZT:Fx Tryz.prog 143=true:=by kernel_rfl
theorem Yb:BJ Tryz.prog 144=some 1:=by kernel_rfl
theorem ZU:Fx Tryz.prog 144=true:=by kernel_rfl
theorem jC:Br Tryz.prog 144=some [.nilFunc]:=by kernel_rfl
theorem ZV:Fx Tryz.prog 146=true:=by kernel_rfl
theorem cU:BJ Tryz.prog 189=some 1:=by kernel_rfl
theorem ZW:Fx Tryz.prog 189=true:=by kernel_rfl
theorem Yc:([.int .u64 0]:List Value).all (·.oneCell')=true:=by kernel_rfl
theorem cV:Br Tryz.prog 189=some [.int .u64 0]:=by kernel_rfl
theorem MQ:BJ Tryz.prog 196=some 5:=by kernel_rfl
theorem NV:GM Tryz.prog 196=true:=by kernel_rfl
theorem C_:∀ps,Tryz.prog.built 196 ps=Instr.fill (fun i=>(#[(0,1),(1,1),(2,1),(3,1),(4,1)]:Array (Nat×Nat))[i]?) ([.string (ByteArray.mk #[]),.int .i64 0,.int .i64 0,.slice none 0 0,.slice none 0 0]:List Value).toArray ps:=by intro ps;kernel_rfl
theorem Cm:([.string (ByteArray.mk #[]),.int .i64 0,.int .i64 0,.slice none 0 0,.slice none 0 0]:List Value).all (·.oneCell')=true:=by kernel_rfl
theorem z196:Br Tryz.prog 196=some [.string (ByteArray.mk #[]),.int .i64 0,.int .i64 0,.slice none 0 0,.slice none 0 0]:=by kernel_rfl
theorem W4:A2 Tryz.prog 196 1=some 1:=by kernel_rfl
theorem W6:A2 Tryz.prog 196 2=some 2:=by kernel_rfl
theorem W7:A2 Tryz.prog 196 3=some 3:=by kernel_rfl
theorem W8:A2 Tryz.prog 196 4=some 4:=by kernel_rfl
theorem Yd:BJ Tryz.prog 201=some 2:=by kernel_rfl
theorem cW:∀ps,Tryz.prog.built 201 ps=Instr.fill (fun i=>(#[(0,1),(1,1)]:Array (Nat×Nat))[i]?) ([.string (ByteArray.mk #[]),.int .i64 0]:List Value).toArray ps:=by intro ps;kernel_rfl
theorem Ye:([.string (ByteArray.mk #[]),.int .i64 0]:List Value).all (·.oneCell')=true:=by kernel_rfl
theorem z201:Br Tryz.prog 201=some [.string (ByteArray.mk #[]),.int .i64 0]:=by kernel_rfl
theorem W9:A2 Tryz.prog 201 1=some 1:=by kernel_rfl
theorem Yf:BJ Tryz.prog 217=some 115:=by kernel_rfl
theorem ZX:GM Tryz.prog 217=true:=by kernel_rfl
theorem cX:∀ps,Tryz.prog.built 217 ps=Instr.fill (fun i=>some (i*5,5)) ([.string (ByteArray.mk #[]),.int .i64 0,.int .i64 0,.slice none 0 0,.slice none 0 0,.string (ByteArray.mk #[]),.int .i64 0,.int .i64 0,.slice none 0 0,.slice none 0 0,.string (ByteArray.mk #[]),.int .i64 0,.int .i64 0,.slice none 0 0,.slice none 0 0,.string (ByteArray.mk #[]),.int .i64 0,.int .i64 0,.slice none 0 0,.slice none 0 0,.string (ByteArray.mk #[]),.int .i64 0,.int .i64 0,.slice none 0 0,.slice none 0 0,.string (ByteArray.mk #[]),.int .i64 0,.int .i64 0,.slice none 0 0,.slice none 0 0,.string (ByteArray.mk #[]),.int .i64 0,.int .i64 0,.slice none 0 0,.slice none 0 0,.string (ByteArray.mk #[]),.int .i64 0,.int .i64 0,.slice none 0 0,.slice none 0 0,.string (ByteArray.mk #[]),.int .i64 0,.int .i64 0,.slice none 0 0,.slice none 0 0,.string (ByteArray.mk #[]),.int .i64 0,.int .i64 0,.slice none 0 0,.slice none 0 0,.string (ByteArray.mk #[]),.int .i64 0,.int .i64 0,.slice none 0 0,.slice none 0 0,.string (ByteArray.mk #[]),.int .i64 0,.int .i64 0,.slice none 0 0,.slice none 0 0,.string (ByteArray.mk #[]),.int .i64 0,.int .i64 0,.slice none 0 0,.slice none 0 0,.string (ByteArray.mk #[]),.int .i64 0,.int .i64 0,.slice none 0 0,.slice none 0 0,.string (ByteArray.mk #[]),.int .i64 0,.int .i64 0,.slice none 0 0,.slice none 0 0,.string (ByteArray.mk #[]),.int .i64 0,.int .i64 0,.slice none 0 0,.slice none 0 0,.string (ByteArray.mk #[]),.int .i64 0,.int .i64 0,.slice none 0 0,.slice none 0 0,.string (ByteArray.mk #[]),.int .i64 0,.int .i64 0,.slice none 0 0,.slice none 0 0,.string (ByteArray.mk #[]),.int .i64 0,.int .i64 0,.slice none 0 0,.slice none 0 0,.string (ByteArray.mk #[]),.int .i64 0,.int .i64 0,.slice none 0 0,.slice none 0 0,.string (ByteArray.mk #[]),.int .i64 0,.int .i64 0,.slice none 0 0,.slice none 0 0,.string (ByteArray.mk #[]),.int .i64 0,.int .i64 0,.slice none 0 0,.slice none 0 0,.string (ByteArray.mk #[]),.int .i64 0,.int .i64 0,.slice none 0 0,.slice none 0 0]:List Value).toArray ps:=by intro ps;kernel_rfl
theorem Yg:([.string (ByteArray.mk #[]),.int .i64 0,.int .i64 0,.slice none 0 0,.slice none 0 0,.string (ByteArray.mk #[]),.int .i64 0,.int .i64 0,.slice none 0 0,.slice none 0 0,.string (ByteArray.mk #[]),.int .i64 0,.int .i64 0,.slice none 0 0,.slice none 0 0,.string (ByteArray.mk #[]),.int .i64 0,.int .i64 0,.slice none 0 0,.slice none 0 0,.string (ByteArray.mk #[]),.int .i64 0,.int .i64 0,.slice none 0 0,.slice none 0 0,.string (ByteArray.mk #[]),.int .i64 0,.int .i64 0,.slice none 0 0,.slice none 0 0,.string (ByteArray.mk #[]),.int .i64 0,.int .i64 0,.slice none 0 0,.slice none 0 0,.string (ByteArray.mk #[]),.int .i64 0,.int .i64 0,.slice none 0 0,.slice none 0 0,.string (ByteArray.mk #[]),.int .i64 0,.int .i64 0,.slice none 0 0,.slice none 0 0,.string (ByteArray.mk #[]),.int .i64 0,.int .i64 0,.slice none 0 0,.slice none 0 0,.string (ByteArray.mk #[]),.int .i64 0,.int .i64 0,.slice none 0 0,.slice none 0 0,.string (ByteArray.mk #[]),.int .i64 0,.int .i64 0,.slice none 0 0,.slice none 0 0,.string (ByteArray.mk #[]),.int .i64 0,.int .i64 0,.slice none 0 0,.slice none 0 0,.string (ByteArray.mk #[]),.int .i64 0,.int .i64 0,.slice none 0 0,.slice none 0 0,.string (ByteArray.mk #[]),.int .i64 0,.int .i64 0,.slice none 0 0,.slice none 0 0,.string (ByteArray.mk #[]),.int .i64 0,.int .i64 0,.slice none 0 0,.slice none 0 0,.string (ByteArray.mk #[]),.int .i64 0,.int .i64 0,.slice none 0 0,.slice none 0 0,.string (ByteArray.mk #[]),.int .i64 0,.int .i64 0,.slice none 0 0,.slice none 0 0,.string (ByteArray.mk #[]),.int .i64 0,.int .i64 0,.slice none 0 0,.slice none 0 0,.string (ByteArray.mk #[]),.int .i64 0,.int .i64 0,.slice none 0 0,.slice none 0 0,.string (ByteArray.mk #[]),.int .i64 0,.int .i64 0,.slice none 0 0,.slice none 0 0,.string (ByteArray.mk #[]),.int .i64 0,.int .i64 0,.slice none 0 0,.slice none 0 0,.string (ByteArray.mk #[]),.int .i64 0,.int .i64 0,.slice none 0 0,.slice none 0 0]:List Value).all (·.oneCell')=true:=by kernel_rfl
theorem jD:Br Tryz.prog 217=some [.string (ByteArray.mk #[]),.int .i64 0,.int .i64 0,.slice none 0 0,.slice none 0 0,.string (ByteArray.mk #[]),.int .i64 0,.int .i64 0,.slice none 0 0,.slice none 0 0,.string (ByteArray.mk #[]),.int .i64 0,.int .i64 0,.slice none 0 0,.slice none 0 0,.string (ByteArray.mk #[]),.int .i64 0,.int .i64 0,.slice none 0 0,.slice none 0 0,.string (ByteArray.mk #[]),.int .i64 0,.int .i64 0,.slice none 0 0,.slice none 0 0,.string (ByteArray.mk #[]),.int .i64 0,.int .i64 0,.slice none 0 0,.slice none 0 0,.string (ByteArray.mk #[]),.int .i64 0,.int .i64 0,.slice none 0 0,.slice none 0 0,.string (ByteArray.mk #[]),.int .i64 0,.int .i64 0,.slice none 0 0,.slice none 0 0,.string (ByteArray.mk #[]),.int .i64 0,.int .i64 0,.slice none 0 0,.slice none 0 0,.string (ByteArray.mk #[]),.int .i64 0,.int .i64 0,.slice none 0 0,.slice none 0 0,.string (ByteArray.mk #[]),.int .i64 0,.int .i64 0,.slice none 0 0,.slice none 0 0,.string (ByteArray.mk #[]),.int .i64 0,.int .i64 0,.slice none 0 0,.slice none 0 0,.string (ByteArray.mk #[]),.int .i64 0,.int .i64 0,.slice none 0 0,.slice none 0 0,.string (ByteArray.mk #[]),.int .i64 0,.int .i64 0,.slice none 0 0,.slice none 0 0,.string (ByteArray.mk #[]),.int .i64 0,.int .i64 0,.slice none 0 0,.slice none 0 0,.string (ByteArray.mk #[]),.int .i64 0,.int .i64 0,.slice none 0 0,.slice none 0 0,.string (ByteArray.mk #[]),.int .i64 0,.int .i64 0,.slice none 0 0,.slice none 0 0,.string (ByteArray.mk #[]),.int .i64 0,.int .i64 0,.slice none 0 0,.slice none 0 0,.string (ByteArray.mk #[]),.int .i64 0,.int .i64 0,.slice none 0 0,.slice none 0 0,.string (ByteArray.mk #[]),.int .i64 0,.int .i64 0,.slice none 0 0,.slice none 0 0,.string (ByteArray.mk #[]),.int .i64 0,.int .i64 0,.slice none 0 0,.slice none 0 0,.string (ByteArray.mk #[]),.int .i64 0,.int .i64 0,.slice none 0 0,.slice none 0 0,.string (ByteArray.mk #[]),.int .i64 0,.int .i64 0,.slice none 0 0,.slice none 0 0]:=by kernel_rfl
theorem Yh:BJ Tryz.prog 223=some 2:=by kernel_rfl
theorem ZY:GM Tryz.prog 223=true:=by kernel_rfl
theorem cY:∀ps,Tryz.prog.built 223 ps=Instr.fill (fun i=>some (i*1,1)) ((List.replicate 2 (.int .i64 0)):List Value).toArray ps:=by intro ps;kernel_rfl
theorem Yi:((List.replicate 2 (.int .i64 0)):List Value).all (·.oneCell')=true:=by kernel_rfl
theorem jE:Br Tryz.prog 223=some (List.replicate 2 (.int .i64 0)):=by kernel_rfl
theorem cZ:∀ps,Tryz.prog.built 224 ps=Instr.fill (fun i=>some (i*2,2)) ((List.replicate 10 (.int .i64 0)):List Value).toArray ps:=by intro ps;kernel_rfl
theorem cj:((List.replicate 10 (.int .i64 0)):List Value).all (·.oneCell')=true:=by kernel_rfl
end Go.Proofs.YtgilhkjlfongoaaGreat
namespace Cp
open Go Go.RowKit Go.Great
section
variable {P:Program} {L:Lg P} {n:Fm} {fz:Nat} {E:Env} {M0:Av} {w0:World} {S:Nat→Prop} {rs:List A0} {o:Oper}
def lens (m:Nat):Pr where
 h _ _ v:=∃a c,v= .slice a m c
 st _M _w _M' _w' _v _ h:=h
instance ck (m:Nat):One (lens m):=⟨by rintro M w v ⟨a,c,rfl⟩;exact ⟨rfl,rfl⟩⟩
def DZ (e:TypeId) (sz:Nat) (rows:List (List Pr)) (v:Value):A0 where
 D8:=match v with| .slice (some a) _ _=>some a.block|_=>none
 new:=true
 h M w:=∃(b cap:Nat) (spare:List Value),v= .slice (some ⟨b,0,none⟩) rows.length cap∧rows.length≤cap∧cap≤maxLen∧spare.length=(cap-rows.length)*sz∧(AD true b e (rows.flatten++spare.map is)).h M w
 st M w M' w' he hk h:=by
  obtain ⟨b,cap,spare,rfl,h1,h2,h3,h4⟩:=h
  exact ⟨b,cap,spare,rfl,h1,h2,h3,(AD true b e _).st _ _ _ _ he hk h4⟩
theorem GS {sz:Nat}:∀{rows:List (List Pr)} {i j:Nat} {row:List Pr},(∀r∈rows,r.length=sz)→rows[i]? =some row→j<sz→rows.flatten[i*sz+j]? =row[j]?
 |[],_,_,_,_,h,_=>by simp at h
 |a::l,0,j,row,hl,h,hj=>by
  simp at h;subst h
  have:=hl a (by simp)
  rw [List.flatten_cons,Nat.zero_mul,Nat.zero_add,List.getElem?_append_left (by omega)]
 |a::l,i+1,j,row,hl,h,hj=>by
  have h1:=hl a (by simp)
  rw [List.flatten_cons,Nat.succ_mul,List.getElem?_append_right (by omega),h1,show i*sz+sz+j-sz=i*sz+j by omega]
  exact GS (fun r hr=>hl r (List.mem_cons_of_mem _ hr)) (by simpa using h) hj
theorem Bt {sz:Nat}:∀{rows:List (List Pr)},(∀r∈rows,r.length=sz)→rows.flatten.length=rows.length*sz
 |[],_=>by simp
 |a::l,h=>by
  rw [List.flatten_cons,List.length_append,Bt (fun r hr=>h r (List.mem_cons_of_mem _ hr)),h a (by simp),List.length_cons,Nat.succ_mul];omega
theorem OO {M:Av} {w:World}:∀{ps:List Pr} {vs:List Value},vs.length=ps.length→(∀(k:Nat) p,ps[k]? =some p→∃u,vs[k]? =some u∧p.h M w u)→HL M w ps vs
 |[],[],_,_=>trivial
 |[],_::_,h,_=>by simp at h
 |_::_,[],h,_=>by simp at h
 |p::ps,v::vs,h,hk=>by
  refine ⟨?_,OO (by simpa using h) fun k q hq=>by simpa using hk (k+1) q (by simpa using hq)⟩
  obtain ⟨u,hu,hp⟩:=hk 0 p rfl
  simp at hu;subst hu;exact hp
theorem Flat.hl {M:Av} {w:World} {sz:Nat} {rows:List (List Pr)} {news:List Value} (hsz:0<sz) (h:Flat M w sz rows news):HL M w rows.flatten news:=by
 have hl:∀r∈rows,r.length=sz:=fun r hr=>by obtain ⟨i,hi⟩:=List.mem_iff_getElem?.1 hr;exact (h.2.2 i r hi).1
 refine OO (by rw [h.1,Bt hl]) fun k p hk=> ?_
 have JB:k<rows.length*sz:=by rw [←Bt hl];rcases Nat.lt_or_ge k rows.flatten.length with h|h;exact h;rw [List.getElem?_eq_none h] at hk;cases hk
 have hi:k/sz<rows.length:=Nat.div_lt_of_lt_mul (by rw [Nat.mul_comm];exact JB)
 have hj:k % sz<sz:=Nat.mod_lt _ hsz
 have he:k/sz*sz+k % sz=k:=by rw [Nat.mul_comm];exact Nat.div_add_mod k sz
 have hr:=List.getElem?_eq_getElem hi
 rw [←he,GS hl hr hj] at hk
 obtain ⟨u,hu,hp⟩:=(h.2.2 _ _ hr).2 _ p hk
 exact ⟨u,by rw [←he];exact hu,hp⟩
theorem HL.flat {M:Av} {w:World} {sz:Nat} {rows:List (List Pr)} {qs:List Pr} {cs:List Value} (hl:∀r∈rows,r.length=sz) (h:HL M w (rows.flatten++qs) cs) (h1:∀c∈cs,c.oneCell'=true):Flat M w sz rows (cs.take (rows.length*sz)):=by
 have hfl:=Bt hl
 have hlen:=h.length
 refine ⟨by rw [List.length_take,hlen,List.length_append,hfl];omega,fun u hu=>h1 u (List.mem_of_mem_take hu),fun i row hi=> ?_⟩
 have hrl:=hl row (List.mem_of_getElem? hi)
 refine ⟨hrl,fun j p hp=> ?_⟩
 have hjl:j<sz:=by rw [←hrl];rcases Nat.lt_or_ge j row.length with h|h;exact h;rw [List.getElem?_eq_none h] at hp;cases hp
 have Dn:i<rows.length:=by rcases Nat.lt_or_ge i rows.length with h|h;exact h;rw [List.getElem?_eq_none h] at hi;cases hi
 have hlt:i*sz+j<rows.length*sz:=by have:(i+1)*sz≤rows.length*sz:=Nat.mul_le_mul_right sz Dn;rw [Nat.add_mul] at this;omega
 obtain ⟨u,hu,hh⟩:=h.at_ (i*sz+j) p (by rw [List.getElem?_append_left (by rw [hfl];exact hlt),GS hl hi hjl];exact hp)
 exact ⟨u,by rw [List.getElem?_take,if_pos hlt];exact hu,hh⟩
theorem EP {zs:List Value} {z:Array Value} {k:Nat} (hz:z.toList=zs) (h1:zs.all (·.oneCell')=true):∀c∈(Builtin.zeroCells z k).toList,c.oneCell'=true:=by
 intro c hc
 simp only [Builtin.zeroCells,Array.toList_map,Array.toList_range,List.mem_map,List.mem_range] at hc
 obtain ⟨i,hi,rfl⟩:=hc
 have hpos:0<z.size:=by rcases Nat.eq_zero_or_pos z.size with h|h;rw [h] at hi;simp at hi;exact h
 have hm:i % z.size<z.size:=Nat.mod_lt _ hpos
 rw [getElem!_pos z _ hm]
 exact List.all_eq_true.1 h1 _ (by rw [←hz];simp)
theorem W_ {M:Av} {w:World} {t ty e:TypeId} {sz bytes:Nat} {zs:List Value} {rows:List (List Pr)} {u:Value} {j:Nat} (ht:P.underlying t=some (.slice e)) (hz:BJ P e=some sz) (hby:CH P e=some bytes) (DU:Br P e=some zs) (hzl:zs.length=sz) (hone:zs.all (·.oneCell')=true) (hsz:0<sz)
  (h:A1 M0 w0 S rs M w) (hj:rs[j]? =some Bz) (hu:(slice sz rows).h M w u) (hpos:0<rows.length) (Dw:rows.length≤maxLen) (hfit:rows.length*bytes≤140737488355328):
  ∃v' w' M',(Builtin.append_ #[t,t] ty #[.slice none 0 0,u]).run P w= .ok v' w'∧(lens rows.length).h M' w' v'∧Ext M w M' w'∧A1 M0 w0 S (rs.set j (DZ e sz rows v')) M' w':=by
 unfold BJ at hz
 unfold CH at hby
 unfold Br at DU
 cases hi:P.info? e with
 |none=>rw [hi] at hz;cases hz
 |some i=>
  rw [hi] at hz hby DU
  simp only [Option.map_some,Option.some.injEq,Option.map_eq_some_iff] at hz hby DU
  obtain ⟨z,Px,DU⟩:=DU
  have WN:z.cells.size=sz:=by rw [←hzl,←DU];simp
  obtain ⟨A',c',rfl,ZB,P5,Wi,E2⟩:=hu
  have L6:(slice sz rows).h M w (.slice A' rows.length c'):=⟨A',c',rfl,ZB,P5,Wi,E2⟩
  obtain ⟨MJ,rfl⟩:∃MJ,A'=some MJ:=by
   obtain ⟨_,b,hb,_⟩:=E2 0 _ (List.getElem?_eq_getElem hpos)
   exact ⟨b,hb⟩
  obtain ⟨news,hfl,hcell⟩:=EB hsz L6
  have hrun:=run_append_nil (P:=P) w t ty e i z ht hi Px MJ rows.length c' news (by rw [hz];exact hfl.1) (fun k u hk=>(hcell k u hk).1) hpos (by unfold maxLen at Dw;omega) (by rw [hby];omega)
  generalize hcap:grownCap w rows.length 0 e=cap at hrun
  have hge:rows.length≤cap:=by rw [←hcap];exact grownCap_ge _ _ _ _
  have hle:cap≤maxLen:=by rw [←hcap];exact grownCap_le_maxLen _ _ _ _ Dw
  generalize L7:Builtin.zeroCells z.cells (cap-rows.length)=zc at hrun
  have hzs:zc.size=(cap-rows.length)*sz:=by rw [←L7,size_zeroCells,WN]
  have cq:∀c∈zc.toList,c.oneCell'=true:=by rw [←L7];exact EP DU hone
  have hb:Below w.heap.size w (w.drew.alloc (.cells (news.toArray++zc) e)):=((Below.refl _ _).drew).alloc (Nat.le_refl _) _
  have h2:=Ext.below (M:=M) hb
  have FL:Ext M w (fun b o=>M b o∨b=w.heap.size) (w.drew.alloc (.cells (news.toArray++zc) e)):=by
   refine ⟨h2.size,fun a v hc hm=>⟨fun hx=> ?_,(h2.keep a v hc hm).2⟩,fun b o ho hp hm=>⟨fun hx=> ?_,(h2.obj b o ho hp hm).2⟩⟩
   ·
    rcases hx with hx|hx
    · exact hm hx
    · have:=Dq hc;omega
   ·
    rcases hx with hx|hx
    · exact hm hx
    · subst hx;simp at ho
  have hs1:(w.drew.alloc (.cells (news.toArray++zc) e)).heap.size=w.heap.size+1:=by simp
  refine ⟨_,_,fun b o=>M b o∨b=w.heap.size,hrun,⟨_,_,rfl⟩,FL,?_⟩
  refine h.replace hj FL hb.os hb.tape hb.output (fun k hk _=>hb.block k hk) rfl (fun b o hm _=> .inl hm) (fun b o hx=> ?_) ?_ rfl (fun b hbk=> ?_)
  ·
   rcases hx with hx|hx
   · have:=h.bd _ _ hx;omega
   · omega
  ·
   refine ⟨w.heap.size,cap,zc.toList,rfl,hge,hle,by simpa using hzs,fun o=> .inr rfl,news++zc.toList,?_,?_,?_⟩
   ·
    have hh:(w.drew.alloc (.cells (news.toArray++zc) e)).heap[w.heap.size]? =some (.cells (news.toArray++zc) e (0,0)):=heap_alloc_new w.drew _
    rw [hh];simp
   · exact ((hfl.st FL).hl hsz).app (Kj _ _ _)
   ·
    intro c hc
    rcases List.mem_append.1 hc with hc|hc
    · exact hfl.2.1 c hc
    · exact cq c hc
  ·
   have D_:some w.heap.size=some b:=hbk
   injection D_ with e1
   subst e1
   exact ⟨by rw [hs1];omega,.inr (Nat.le_refl _)⟩
theorem St.He {e:TypeId} {sz:Nat} {rows:List (List Pr)} {v:Value} (j:Nat) (hj:rs[j]? =some (DZ e sz rows v)) {a:Act} {w:World} (h:St n E (Hp M0 w0 S rs) a w):
  ∃(b cap:Nat) (spare:List Value),v= .slice (some ⟨b,0,none⟩) rows.length cap∧rows.length≤cap∧cap≤maxLen∧spare.length=(cap-rows.length)*sz∧St n E (Hp M0 w0 S (rs.set j (AD true b e (rows.flatten++spare.map is)))) a w:=by
 obtain ⟨M,h1,h2,h3,h4⟩:=h
 have h4:A1 M0 w0 S rs M w:=h4
 obtain ⟨b,cap,spare,rfl,h5,h6,h7,h8⟩:=(h4.hold _ (List.mem_of_getElem? hj)).1
 exact ⟨b,cap,spare,rfl,h5,h6,h7,M,h1,h2,h3,h4.CZ hj rfl rfl h8⟩
theorem Tr.He {Q:Exit→Act→World→Prop} {c:Code} {e:TypeId} {sz:Nat} {rows:List (List Pr)} {v:Value} (j:Nat) (hj:rs[j]? =some (DZ e sz rows v))
  (k:∀(b cap:Nat) (spare:List Value),v= .slice (some ⟨b,0,none⟩) rows.length cap→rows.length≤cap→cap≤maxLen→spare.length=(cap-rows.length)*sz→Tr L n E (Hp M0 w0 S (rs.set j (AD true b e (rows.flatten++spare.map is)))) c Q):Tr L n E (Hp M0 w0 S rs) c Q:=
 fun a w hs=>let ⟨b,cap,spare,h1,h2,h3,h4,h5⟩:=hs.He j hj;k b cap spare h1 h2 h3 h4 a w h5
theorem Fin.He {Q:Exit→Act→World→Prop} {ex:Exit} {e:TypeId} {sz:Nat} {rows:List (List Pr)} {v:Value} (j:Nat) (hj:rs[j]? =some (DZ e sz rows v))
  (k:∀(b cap:Nat) (spare:List Value),v= .slice (some ⟨b,0,none⟩) rows.length cap→rows.length≤cap→cap≤maxLen→spare.length=(cap-rows.length)*sz→Fin n E (Hp M0 w0 S (rs.set j (AD true b e (rows.flatten++spare.map is)))) Q ex):Fin n E (Hp M0 w0 S rs) Q ex:=
 fun a w hs=>let ⟨b,cap,spare,h1,h2,h3,h4,h5⟩:=hs.He j hj;k b cap spare h1 h2 h3 h4 a w h5
theorem A1.cr {M:Av} {w:World} {b cap sz:Nat} {e:TypeId} {rows:List (List Pr)} {qs:List Pr} {j:Nat} (h:A1 M0 w0 S rs M w) (hj:rs[j]? =some (AD true b e (rows.flatten++qs))) (hl:∀r∈rows,r.length=sz) (hc:rows.length≤cap) (hm:cap≤maxLen) (hq:qs.length=(cap-rows.length)*sz):
  ∃M',Ext M w M' w∧A1 M0 w0 S (rs.set j (BX e sz (.slice (some ⟨b,0,none⟩) rows.length cap))) M' w∧(slice sz rows).h M' w (.slice (some ⟨b,0,none⟩) rows.length cap):=by
 obtain ⟨⟨hM,cs,hh,hcs,hone⟩,WM⟩:=h.hold _ (List.mem_of_getElem? hj)
 have aj:=(WM b rfl).1
 have hfl:=HL.flat hl hcs hone
 have hlen:=hcs.length
 rw [List.length_append,Bt hl,hq,←Nat.add_mul,show rows.length+(cap-rows.length)=cap by omega] at hlen
 have he:Ext M w (fun b' o=>M b' o∧¬(b'=b∧o<rows.length*sz)) w:=Ext.less fun _ _ h=>h.1
 refine ⟨_,he,?_,DN (hfl.st he) hc hm fun k u hk=> ?_⟩
 ·
  refine h.replace hj he rfl rfl rfl (fun _ _ _=>rfl) rfl (fun b' o hm' hne=>⟨hm',fun hx=>hne (by rw [hx.1];rfl)⟩) (fun b' o hx=>h.bd _ _ hx.1) ?_ rfl (fun b' hbk=> ?_)
  ·
   intro a' n' c' hv hlt
   injection hv with e1 e2 e3
   injection e1 with e1
   subst e1;subst e2;subst e3
   refine ⟨⟨cs.take (rows.length*sz),hfl.1,.inr ⟨b,cap,cs.toArray,rfl,Nat.zero_le _,hh,hc,hm,by simpa using hlen,by simp⟩⟩,fun o ho=>⟨hM o,fun hx=>by omega⟩⟩
  ·
   have D_:Cl (.slice (some ⟨b,0,none⟩) rows.length cap)=some b':=hbk
   simp only [Cl] at D_
   split at D_
   · simp at D_;subst D_;exact ⟨aj,.inl rfl⟩
   · cases D_
 ·
  have JB:k<rows.length*sz:=by rw [←hfl.1];rcases Nat.lt_or_ge k (cs.take (rows.length*sz)).length with h|h;exact h;rw [List.getElem?_eq_none h] at hk;cases hk
  rw [List.getElem?_take,if_pos JB] at hk
  exact ⟨by simp [World.cell?,hh,hk],fun hx=>hx.2 ⟨rfl,JB⟩⟩
end
abbrev str (l:List UInt8):Pr:=is (.string ⟨l.toArray⟩)
theorem ED (l:List UInt8):(ByteArray.mk l.toArray).toList=l:=by rw [ByteArray.toList_eq]
theorem Ky (l:List UInt8):(ByteArray.mk l.toArray).size=l.length:=rfl
theorem str_eq {a b:List UInt8} (h:a=b):Pr.le (str a) (str b):=Pr.le_of_eq (by rw [h])
section
variable {P:Program} {L:Lg P} {E:Env} {I:CL} {o:Oper}
theorem QB {t u:TypeId} {x y:Operand} {a b:List UInt8} (ho:o.op= .binOp .eql t x y u) (hx:VL E x (str a)) (hy:VL E y (str b)):Ab P I o E (bool (decide (a=b))):=
 Ab.same fun M w ac he _=>by
  have h1:ac.eval x=_:=hx.ev he (by simp [ho,Op.operands])
  have h2:ac.eval y=_:=hy.ev he (by simp [ho,Op.operands])
  refine ⟨_,by simp [execOp,ho,h1,h2,eqGuard,binOp,Op.stringOp,ED];rfl,?_⟩
  show Value.bool _=Value.bool _
  congr 1
  rw [Bool.eq_iff_iff];simp
theorem ZZ {t u:TypeId} {x y:Operand} {a b:List UInt8} (ho:o.op= .binOp .neq t x y u) (hx:VL E x (str a)) (hy:VL E y (str b)):Ab P I o E (bool (!decide (a=b))):=
 Ab.same fun M w ac he _=>by
  have h1:ac.eval x=_:=hx.ev he (by simp [ho,Op.operands])
  have h2:ac.eval y=_:=hy.ev he (by simp [ho,Op.operands])
  refine ⟨_,by simp [execOp,ho,h1,h2,eqGuard,binOp,Op.stringOp,ED];rfl,?_⟩
  show Value.bool _=Value.bool _
  congr 1
  rw [Bool.eq_iff_iff];simp
theorem Kz:∀(a b:List UInt8),Op.bytesLess a b=decide (Lib.compareBytes a b= -1)
 |_,[]=>by cases ‹List UInt8›<;>simp [Op.bytesLess,Lib.compareBytes]
 |[],_::_=>by simp [Op.bytesLess,Lib.compareBytes]
 |a::x,b::y=>by
  rw [Op.bytesLess,Kz x y,Lib.compareBytes]
  by_cases h1:a<b
  · simp [h1]
  ·
   by_cases h2:b<a
   ·
    have h3:a≠b:=fun e=>by subst e;exact h1 h2
    simp [h1,h2,h3]
   ·
    have h3:a=b:=UInt8.le_antisymm (UInt8.not_lt.1 h2) (UInt8.not_lt.1 h1)
    simp [h1,h2,h3]
theorem CB:∀(a b:List UInt8),Lib.compareBytes a b=0↔a=b
 |[],[]=>by simp [Lib.compareBytes]
 |[],_::_=>by simp [Lib.compareBytes]
 |_::_,[]=>by simp [Lib.compareBytes]
 |a::x,b::y=>by
  rw [Lib.compareBytes]
  by_cases h1:a<b
  ·
   simp only [h1,if_true]
   constructor
   · intro h;cases h
   · intro h;injection h with e _;subst e;exact absurd h1 (UInt8.lt_irrefl _)
  ·
   by_cases h2:b<a
   ·
    simp only [h1,h2,if_true,if_false]
    constructor
    · intro h;cases h
    · intro h;injection h with e _;subst e;exact absurd h2 (UInt8.lt_irrefl _)
   ·
    have h3:a=b:=UInt8.le_antisymm (UInt8.not_lt.1 h2) (UInt8.not_lt.1 h1)
    rw [if_neg h1,if_neg h2,CB x y];simp [h3]
theorem E6:∀(a b:List UInt8),Lib.compareBytes b a= -Lib.compareBytes a b
 |[],[]=>rfl
 |[],_::_=>rfl
 |_::_,[]=>rfl
 |a::x,b::y=>by
  rw [Lib.compareBytes,Lib.compareBytes,E6 x y]
  by_cases h1:a<b
  ·
   have h2:¬b<a:=fun h=>UInt8.lt_asymm h1 h
   simp [h1,h2]
  · by_cases h2:b<a<;>simp [h1,h2]
theorem JH:∀(a b:List UInt8),Lib.compareBytes a b= -1∨Lib.compareBytes a b=0∨Lib.compareBytes a b=1
 |[],[]=>by simp [Lib.compareBytes]
 |[],_::_=>by simp [Lib.compareBytes]
 |_::_,[]=>by simp [Lib.compareBytes]
 |a::x,b::y=>by
  rw [Lib.compareBytes]
  split
  · simp
  ·
   split
   · simp
   · exact JH x y
theorem QC {t u:TypeId} {x y:Operand} {a b:List UInt8} (ho:o.op= .binOp .lss t x y u) (hx:VL E x (str a)) (hy:VL E y (str b)):Ab P I o E (bool (decide (Lib.compareBytes a b= -1))):=
 Ab.same fun M w ac he _=>by
  have h1:ac.eval x=_:=hx.ev he (by simp [ho,Op.operands])
  have h2:ac.eval y=_:=hy.ev he (by simp [ho,Op.operands])
  exact ⟨_,by simp [execOp,ho,h1,h2,eqGuard,binOp,Op.stringOp,ED,Kz],rfl⟩
theorem Za {t u:TypeId} {x y:Operand} {a b:List UInt8} (ho:o.op= .binOp .gtr t x y u) (hx:VL E x (str a)) (hy:VL E y (str b)):Ab P I o E (bool (decide (Lib.compareBytes a b=1))):=
 Ab.same fun M w ac he _=>by
  have h1:ac.eval x=_:=hx.ev he (by simp [ho,Op.operands])
  have h2:ac.eval y=_:=hy.ev he (by simp [ho,Op.operands])
  refine ⟨_,by simp [execOp,ho,h1,h2,eqGuard,binOp,Op.stringOp,ED,Kz];rfl,?_⟩
  show Value.bool _=Value.bool _
  congr 1
  rw [Bool.eq_iff_iff]
  have h3:=CB a b
  rcases JH a b with h|h|h
  · simp [h]
  ·
   have h4:=h3.1 h
   rw [h];simp [h4]
  ·
   have:a≠b:=fun e=>by have:=h3.2 e;omega
   simp [h,this]
theorem SH {f : FuncId} {fn : Func} {x y : Operand} {ts : Array TypeId} {a b : List UInt8} (ho : o.op = .call { callee := .value (.func f), args := #[x, y], argTypes := ts }) (hf : P.funcs[f]? = some fn) (hname : (fn.name == "runtime.NumGoroutine") = false)
  (hb:fn.body.isNone=true) (hn:Extern.findNext fn=none) (hex:Extern.find fn=some Extern.BytealgCompare.compare) (hx:VL E x (str a)) (hy:VL E y (str b)):Ab P I o E (int (Lib.compareBytes a b)):=
 Ab.same fun M w ac he _=>by
  have h1:ac.eval x=_:=hx.ev he (by simp [ho,Op.operands,Call.operands])
  have h2:ac.eval y=_:=hy.ev he (by simp [ho,Op.operands,Call.operands])
  have h3:ac.eval (.func f)= .func (.func f) #[] #[]:=rfl
  refine ⟨_,?_,rfl⟩
  have hrun:(execOp ac.eval o).run P w=(callFunc f #[ac.eval x,ac.eval y]).run P w:=by simp [execOp,ho,resolve,Deferred.ofValue,invoke,h3]
  rw [hrun,h1,h2,run_callFunc_extern hf hname hb hn hex,Lib.run_compareString]
  rfl
theorem XA {t:TypeId} {x:Operand} {a:List UInt8} (ho:o.op= .call { callee:= .builtin .len,args:= #[x],argTypes:= #[t] }) (ht:P.underlying t=some .string) (hx:VL E x (str a)):Ab P I o E (int ((a.length:Nat):Int)):=
 Ab.same fun M w ac he _=>by
  have h1:ac.eval x=_:=hx.ev he (by simp [ho,Op.operands,Call.operands])
  exact ⟨.int .i64 a.length,by simp [execOp,ho,resolve,invoke,builtin,Builtin.len_,h1,run_underlying ht,goInt,Ky],rfl⟩
theorem IQ {t:TypeId} {x y:Operand} {k:IntKind} {a:List UInt8} {i:Int} {c:UInt8} (ho:o.op= .index t x y) (ht:P.underlying t=some .string) (hx:VL E x (str a)) (hy:VL E y (is (.int k i))) (h0:0≤i) (hc:a[i.toNat]? =some c):Ab P I o E (is (.int .u8 c.toNat)):=
 Ab.same fun M w ac he _=>by
  have h1:ac.eval x=_:=hx.ev he (by simp [ho,Op.operands])
  have h2:ac.eval y=_:=hy.ev he (by simp [ho,Op.operands])
  refine ⟨_,?_,rfl⟩
  have hlt:i.toNat<a.length:=by rcases Nat.lt_or_ge i.toNat a.length with h|h;exact h;rw [List.getElem?_eq_none h] at hc;cases hc
  have h3:(ByteArray.mk a.toArray)[i.toNat]? =some c:=by
   rw [getElem?_pos (ByteArray.mk a.toArray) i.toNat (by rw [Ky];exact hlt)]
   rw [List.getElem?_eq_getElem hlt] at hc
   simp only [Option.some.injEq] at hc
   rw [←hc]
   rfl
  simp [execOp,ho,h1,h2,Instr.index,asIntOf,run_underlying ht,h0,h3]
theorem T9 {s t e:TypeId} {x:Operand} {a:List UInt8} (ho:o.op= .convert s t x) (hs:P.underlying s=some .string) (ht:P.underlying t=some (.slice e)) (he:P.underlying e=some (.int .u8)) (hx:VL E x (str a)) (hm:a.length≤maxLen):Ab P I o E (slice 1 (a.map fun c=>[is (.int .u8 c.toNat)])):=
 Ab.val fun M w ac gV hI=>by
  have h1:ac.eval x=_:=hx.ev gV (by simp [ho,Op.operands])
  have hrun:=Lib.run_convert_string_bytes (P:=P) w s t e ⟨a.toArray⟩ hs ht he
  have hcap:=grownCap_ge w a.length 0 e
  have hcm:=grownCap_le_maxLen w a.length 0 e hm
  refine ⟨.slice (some ⟨w.heap.size,0,none⟩) a.length (grownCap w a.length 0 e),Lib.bytesWorld w e ⟨a.toArray⟩,by simp [execOp,ho,h1,hrun];exact ⟨rfl,rfl⟩,?_,?_⟩
  ·
   have hbd:Bd M w:=I.bd _ _ hI
   refine ⟨_,grownCap w a.length 0 e,by rw [List.length_map],by rw [List.length_map];exact hcap,hcm,(fun h=>by cases h),fun i row hr=> ?_⟩
   rw [List.getElem?_map] at hr
   cases hc:a[i]? with
   |none=>rw [hc] at hr;cases hr
   |some c=>
    rw [hc] at hr
    simp only [Option.map_some,Option.some.injEq] at hr
    subst hr
    have Dn:i<a.length:=by rcases Nat.lt_or_ge i a.length with h|h;exact h;rw [List.getElem?_eq_none h] at hc;cases hc
    refine ⟨rfl,_,rfl,fun j p hp=> ?_⟩
    have hj:j=0:=by
     rcases Nat.eq_zero_or_pos j with h|h
     · exact h
     · rw [List.getElem?_eq_none (by simp;omega)] at hp;cases hp
    subst hj
    simp only [List.getElem?_cons_zero,Option.some.injEq] at hp
    subst hp
    refine ⟨.int .u8 c.toNat,?_,fun gF=> ?_,rfl,rfl⟩
    ·
     rw [show Addr.add ⟨w.heap.size,0,none⟩ (i*1+0)=⟨w.heap.size,i,none⟩ by unfold Addr.add;split<;>simp_all]
     rw [Lib.bytesWorld_cell w e ⟨a.toArray⟩ i (by rw [Ky];exact Dn)]
     have:([]++a).getD i 0=c:=by simp [hc]
     simp [hc]
    · have:=hbd _ _ gF;simp at this
  · exact Lib.bytesWorld_below w e ⟨a.toArray⟩
theorem RI {a:List UInt8} {k:Nat} {c:UInt8} (h:a[k]? =some c):a[((k:Nat):Int).toNat]? =some c:=h
theorem OP {t e:TypeId} {x y:Operand} {k:IntKind} {i:Int} {len sz:Nat} {ps qs:List Pr} (ho:o.op= .index t x y) (ht:P.underlying t=some (.array len e)) (he:GM P e=true) (hz:BJ P e=some sz) (hx:VL E x (agg ps)) (hy:VL E y (is (.int k i))) (h0:0≤i) (hl:i<len)
  (hq:(ps.drop (i.toNat*sz)).take sz=qs):Ab P I o E (agg qs):=
 Ab.same fun M w ac gV _=>by
  obtain ⟨cs,h1,gW,h2⟩:=hx.ev gV (by simp [ho,Op.operands])
  have h3:ac.eval y=_:=hy.ev gV (by simp [ho,Op.operands])
  refine ⟨.agg (cs.toArray.extract (i.toNat*sz) (i.toNat*sz+sz)),?_,(cs.drop (i.toNat*sz)).take sz,?_,fun c hc=>gW c (List.mem_of_mem_drop (List.mem_of_mem_take hc)),by rw [←hq];exact (h2.drop _).take _⟩
  · simp [execOp,ho,h1,h3,Instr.index,asIntOf,run_underlying ht,h0,hl,B1 hz,part,C1 he]
  ·
   congr 1
   apply Array.toList_inj.1
   simp [List.extract,Nat.add_sub_cancel_left]
theorem Ec {M:Av} {w:World} {v:Value} {xs:List Value} (h:(agg (xs.map is)).h M w v):v= .agg xs.toArray:=by
 obtain ⟨cs,rfl,ho,h2⟩:=h
 congr 1
 have:cs=xs:=by
  clear ho
  induction xs generalizing cs with
  |nil=>cases cs with
   |nil=>rfl
   |cons c cs=>exact h2.elim
  |cons x xs ih=>cases cs with
   |nil=>exact h2.elim
   |cons c cs=>rw [ih cs h2.2,show c=x from h2.1]
 rw [this]
theorem IU {t u:TypeId} {x y:Operand} {r:Bool} (xs ys:List Value) (ho:o.op= .binOp .eql t x y u) (hx:VL E x (agg (xs.map is))) (hy:VL E y (agg (ys.map is))) (hg:P.eqGuardType P.depth t=false) (hr:∀w,(Op.equal t (.agg xs.toArray) (.agg ys.toArray)).run P w= .ok r w):Ab P I o E (bool r):=
 Ab.same fun M w ac he _=>by
  have h1:=Ec (hx.ev he (by simp [ho,Op.operands]))
  have h2:=Ec (hy.ev he (by simp [ho,Op.operands]))
  exact ⟨_,by simp [execOp,ho,h1,h2,eqGuard,hg,binOp,hr w],rfl⟩
theorem IV {t u:TypeId} {x y:Operand} {r:Bool} (xs ys:List Value) (ho:o.op= .binOp .neq t x y u) (hx:VL E x (agg (xs.map is))) (hy:VL E y (agg (ys.map is))) (hg:P.eqGuardType P.depth t=false) (hr:∀w,(Op.equal t (.agg xs.toArray) (.agg ys.toArray)).run P w= .ok r w):Ab P I o E (bool (!r)):=
 Ab.same fun M w ac he _=>by
  have h1:=Ec (hx.ev he (by simp [ho,Op.operands]))
  have h2:=Ec (hy.ev he (by simp [ho,Op.operands]))
  exact ⟨_,by simp [execOp,ho,h1,h2,eqGuard,hg,binOp,hr w],rfl⟩
theorem cv {P:Program} {w:World} {d:Nat} {t:TypeId} {fs:Array Field} {xs ys:Array Value} {r:Bool} (ht:P.underlying t=some (.struct fs)) (hp:P.stoodInHeld t=false) (h:(Op.eqFields d xs ys fs.toList).run P w= .ok r w):(Op.equalIn (d+1) t (.agg xs) (.agg ys)).run P w= .ok r w:=by
 have hf:P.fieldsOf t=fs:=by unfold Program.fieldsOf;rw [ht]
 rw [run_equalIn_struct w d t xs ys (by rw [hf];exact ht) hp,hf];exact h
theorem IW {P:Program} {w:World} {d:Nat} {xs ys:Array Value}:(Op.eqFields d xs ys []).run P w= .ok true w:=by simp [Op.eqFields]
theorem Be {P : Program} {w : World} {d : Nat} {xs ys : Array Value} {f : Field} {fs : List Field} {vx vy : Value} {r q : Bool} (hn : f.name ≠ "_") (ha : (part f.type xs f.offset).run P w = .ok vx w) (hb : (part f.type ys f.offset).run P w = .ok vy w)
  (he:(Op.equalIn d f.type vx vy).run P w= .ok r w) (hr:(Op.eqFields d xs ys fs).run P w= .ok q w):(Op.eqFields d xs ys (f::fs)).run P w= .ok (r&&q) w:=by
 simp only [Op.eqFields,hn,ne_eq,not_false_eq_true,if_true,Sem.run_bind,ha,hb,he,Result.andThen_ok]
 cases r
 · simp
 · simpa using hr
theorem Ag {P:Program} {w:World} {t:TypeId} {cs:Array Value} {off:Nat} {v:Value} (h1:Fx P t=true) (hv:cs[off]? =some v):(part t cs off).run P w= .ok v w:=by
 simp [part,Fg h1,hv]
theorem E7 {P:Program} {w:World} {t:TypeId} {cs:Array Value} {off m:Nat} {vs:Array Value} (h1:GM P t=true) (hz:BJ P t=some m) (hv:cs.extract off (off+m)=vs):(part t cs off).run P w= .ok (.agg vs) w:=by
 simp [part,C1 h1,B1 hz,hv]
theorem Ck {P:Program} {w:World} {d:Nat} {t:TypeId} {k:IntKind} {a b:Int} (h:P.underlying t=some (.int k)):(Op.equalIn (d+1) t (.int k a) (.int k b)).run P w= .ok (decide (a=b)) w:=by
 rw [run_equalIn_int w d t k k a b h];rfl
theorem GU {P:Program} {w:World} {d:Nat} {t:TypeId} {a b:List UInt8} (h:P.underlying t=some .string):(Op.equalIn (d+1) t (.string ⟨a.toArray⟩) (.string ⟨b.toArray⟩)).run P w= .ok (decide (a=b)) w:=by
 rw [run_equalIn_string w d t _ _ h,ED,ED]
 congr 1
 rw [Bool.eq_iff_iff];simp
end
section
variable {P:Program} {L:Lg P} {E:Env} {I:CL} {o:Oper}
theorem K0 {M:Av} {w:World} {sz:Nat} {rows:List (List Pr)} {A:Option Addr} {cap lo hi:Nat} (h:(slice sz rows).h M w (.slice A rows.length cap)) (h1:lo≤hi) (h2:hi≤rows.length):
  (slice sz ((rows.take hi).drop lo)).h M w (.slice (if cap=lo then A else A.map (·.add (lo*sz))) (hi-lo) (cap-lo)):=by
 obtain ⟨A',cap',hv,hc,hm,hA,hr⟩:=h
 injection hv with e1 _ e3
 subst e1;subst e3
 have hlen:((rows.take hi).drop lo).length=hi-lo:=by rw [List.length_drop,List.length_take];omega
 refine ⟨_,cap-lo,by rw [hlen],by rw [hlen];omega,by omega,fun h=> ?_,fun i row hi'=> ?_⟩
 ·
  split at h
  · have:=hA h;omega
  ·
   cases lQ:A with
   |none=>have:=hA lQ;omega
   |some a=>rw [lQ] at h;cases h
 ·
  rw [List.getElem?_drop,List.getElem?_take] at hi'
  split at hi'
  ·
   rename_i hlt
   obtain ⟨h3,ad,h4,h5⟩:=hr _ row hi'
   subst h4
   rw [if_neg (by omega)]
   refine ⟨h3,_,rfl,fun j p hp=> ?_⟩
   obtain ⟨u,h6,h7,h8,h9⟩:=h5 j p hp
   refine ⟨u,?_,?_,h8,h9⟩
   · rw [add_add,show lo*sz+(i*sz+j)=(lo+i)*sz+j by rw [Nat.add_mul];omega];exact h6
   · rw [Fu,IF,show ad.off+lo*sz+(i*sz+j)=ad.off+((lo+i)*sz+j) by rw [Nat.add_mul];omega];exact h7
  · cases hi'
theorem Bj {t e:TypeId} {x y:Operand} {k:IntKind} {h:Int} {sz:Nat} {rows:List (List Pr)} (ho:o.op= .slice t x none (some y) none) (ht:P.underlying t=some (.slice e)) (hz:BJ P e=some sz) (hx:VL E x (slice sz rows)) (hy:VL E y (is (.int k h))) (h0:0≤h) (hl:h≤rows.length):
  Ab P I o E (slice sz (rows.take h.toNat)):=
 Ab.same fun M w a he _=>by
  have h1:=hx.ev he (by simp [ho,Op.operands])
  have h3:a.eval y=_:=hy.ev he (by simp [ho,Op.operands])
  obtain ⟨A,cap,hv,hc,hm,hA,hr⟩:=h1
  have h2:=K0 (lo:=0) (hi:=h.toNat) (show (slice sz rows).h M w (.slice A rows.length cap) from ⟨A,cap,rfl,hc,hm,hA,hr⟩) (by omega) (by omega)
  refine ⟨_,?_,by simpa using h2⟩
  have hb:h≤(cap:Int):=by omega
  simp [execOp,ho,hv,h3,Instr.sliceAt,Instr.slice,run_underlying ht,Instr.sliceBounds,Instr.sliceBound,asIntOf,h0,hb,B1 hz]
theorem BH {t e:TypeId} {x y:Operand} {k:IntKind} {l:Int} {sz:Nat} {rows:List (List Pr)} (ho:o.op= .slice t x (some y) none none) (ht:P.underlying t=some (.slice e)) (hz:BJ P e=some sz) (hx:VL E x (slice sz rows)) (hy:VL E y (is (.int k l))) (h0:0≤l) (hl:l≤rows.length):
  Ab P I o E (slice sz (rows.drop l.toNat)):=
 Ab.same fun M w a he _=>by
  have h1:=hx.ev he (by simp [ho,Op.operands])
  have h3:a.eval y=_:=hy.ev he (by simp [ho,Op.operands])
  obtain ⟨A,cap,hv,hc,hm,hA,hr⟩:=h1
  have h2:=K0 (lo:=l.toNat) (hi:=rows.length) (show (slice sz rows).h M w (.slice A rows.length cap) from ⟨A,cap,rfl,hc,hm,hA,hr⟩) (by omega) (Nat.le_refl _)
  rw [List.take_length] at h2
  refine ⟨_,?_,h2⟩
  simp [execOp,ho,hv,h3,Instr.sliceAt,Instr.slice,run_underlying ht,Instr.sliceBounds,Instr.sliceBound,asIntOf,h0,hl,B1 hz]
end
abbrev CC:Pr:=is (.tuple #[])
section
variable {P:Program} {L:Lg P} {n:Fm} {fz:Nat} {E:Env} {M0:Av} {w0:World} {S:Nat→Prop} {rs:List A0} {o:Oper} {g:Func} {M1:Av} {w1:World}
theorem results0 {g:Func} {a:Act} {w:World} (hr:g.results= #[]):(results g a.tmps).run P w= .ok (.tuple #[]) w:=by
 rw [Ht,hr];simp [Sem.run_bind]
theorem Fin.QD (hr:g.results= #[]):Fin ⟨fz,[]⟩ E (Hp M0 w0 Je rs) (bodyPost P g (OC M0 w0 CC)) .normal:=by
 rintro a w ⟨M,_,hd,he,hi⟩
 obtain ⟨h1,h2⟩:=Ba.Cz M0 w0 M w hi
 exact ⟨hd,_,results0 hr,_,rfl,rfl,h2⟩
theorem Fin.RJ (hr:g.results= #[]):Fin ⟨fz,[]⟩ E (Hp M0 w0 Je rs) (bodyPost P g (OC M0 w0 CC)) .ret:=by
 rintro a w ⟨M,_,hd,he,hi⟩
 obtain ⟨h1,h2⟩:=Ba.Cz M0 w0 M w hi
 exact ⟨hd,_,results0 hr,_,rfl,rfl,h2⟩
theorem Fin.FY {r:A0} (hr:g.results= #[]):Fin ⟨fz,[]⟩ E (Hp M0 w0 S (r::Ai M1 w1::rs)) (bodyPost P g (Jm M0 w0 S rs M1 w1 CC (fun _=>r))) .normal:=by
 rintro a w ⟨M,_,hd,he,hi⟩
 obtain ⟨h1,h2⟩:=SF hi
 exact ⟨hd,_,results0 hr,_,M,rfl,rfl,h1,h2⟩
def OQ (E:Env) (v0:Value) (q0:Pr):List Operand→List Pr→Prop
 |[],[]=>True
 |x::xs,p::ps=>(VL E x p∨(VL E x (is v0)∧Pr.le (BB v0 q0) p))∧OQ E v0 q0 xs ps
 |_,_=>False
theorem OQ.ev {M M':Av} {w:World} {a:Act} {v0:Value} {q0:Pr} (he:CT M w E o a) (hx:Ext M w M' w) (h0:q0.h M' w v0):∀{xs:List Operand} {ps:List Pr},(∀x∈xs,x∈o.op.operands.toList)→OQ E v0 q0 xs ps→HL M' w ps (xs.map a.eval)
 |[],[],_,_=>trivial
 |[],_::_,_,h=>h.elim
 |_::_,[],_,h=>h.elim
 |x::xs,p::ps,hm,h=>by
  refine ⟨?_,OQ.ev he hx h0 (fun y hy=>hm y (List.mem_cons_of_mem _ hy)) h.2⟩
  rcases h.1 with h1|⟨h1,h2⟩
  · exact p.st _ _ _ _ _ hx (h1.ev he (hm x (by simp)))
  ·
   have h3:a.eval x=v0:=h1.ev he (hm x (by simp))
   exact h2 _ _ _ ⟨h3,by rw [h3];exact h0⟩
class Gt (p:Pr):Prop where
 free:∀M M' w v,p.h M w v→p.h M' w v
instance gX (u:Value):Gt (is u):=⟨fun _ _ _ _ h=>h⟩
instance ak (m:Nat):Gt (lens m):=⟨fun _ _ _ _ h=>h⟩
theorem RK {f:FuncId} {xs:Array Operand} {ts:Array TypeId} {ps:List Pr} {res:Pr} [Gt res] {j d b cap sz:Nat} {e:TypeId} (rows:List (List Pr)) {qs:List Pr} (hg:o.guard=none) (hd:o.dst=some d) (hn:d<n) (ho:o.op= .call { callee:= .value (.func f),args:=xs,argTypes:=ts }) (hf:BT P f ps res)
  (hl:∀r∈rows,r.length=sz) (hc:rows.length≤cap) (hm:cap≤maxLen) (hq:qs.length=(cap-rows.length)*sz)
  (hv:OQ E (.slice (some ⟨b,0,none⟩) rows.length cap) (slice sz rows) xs.toList ps):Du P M0 w0 S n j (SR.c (AD true b e (rows.flatten++qs))) (SR.c (AD true b e (rows.flatten++qs))) o E res:=by
 refine ⟨hg,fun M w a rs hsz he hI hj=> ?_⟩
 have hj':rs[j]? =some (AD true b e (rows.flatten++qs)):=hj
 obtain ⟨M',hx,KG,hs⟩:=A1.cr hI hj' hl hc hm hq
 have h1:=hv.ev (o:=o) he hx hs (xs:=xs.toList) (fun x hx=>by simp [ho,Op.operands,Call.operands];exact .inr (by simpa using hx))
 have hrun:(execOp a.eval o).run P w= .ok (.enter f (xs.toList.map a.eval).toArray) w:=by
  simp [execOp,ho,resolve,Deferred.ofValue,Act.eval,invoke,Cu hf.1,ES xs]
 rw [hrun]
 refine (hf.2 M' w _ KG.bd h1).mono ?_
 rintro e' w' ⟨v,rfl,h2,h3⟩
 refine ⟨v,M,rfl,Gt.free _ _ _ _ h2,Ext.below h3,?_⟩
 have GL:rs.set j (SR.at_ (a.put o.dst v) (SR.c (AD true b e (rows.flatten++qs))))=rs:=by
  rw [show SR.at_ (a.put o.dst v) (SR.c (AD true b e (rows.flatten++qs)))=AD true b e (rows.flatten++qs) from bh _ _]
  have hjl:j<rs.length:=by rcases Nat.lt_or_ge j rs.length with h|h;exact h;rw [List.getElem?_eq_none h] at hj';cases hj'
  rw [List.getElem?_eq_getElem hjl] at hj'
  simp only [Option.some.injEq] at hj'
  rw [←hj',List.set_getElem_self]
 rw [GL]
 exact (Hp M0 w0 S rs).st _ _ _ h3 hI
end
def Hy (es:List (Value×Value)):Array MapEntry:=(es.zipIdx.map fun p=>({ key:=p.1.1,val:=p.1.2,born:=p.2 }:MapEntry)).toArray
theorem G1 (es:List (Value×Value)) (i:Nat):(Hy es)[i]? =(es[i]?).map fun p=>{ key:=p.1,val:=p.2,born:=i }:=by
 simp [Hy,List.getElem?_zipIdx]
 cases es[i]? <;>simp
theorem T_ (es:List (Value×Value)) (k v:Value):(Hy es).push { key:=k,val:=v,born:=es.length }=Hy (es++[(k,v)]):=by
 apply Array.toList_inj.1
 simp [Hy,List.zipIdx_append]
theorem XB {es:List (Value×Value)} {i:Nat} (h:i<es.length) (k v:Value):((Hy es).modify i fun e=>{ e with key:=k,val:=v })=Hy (es.set i (k,v)):=by
 apply Array.ext_getElem?
 intro j
 rw [Array.getElem?_modify,G1,G1,List.getElem?_set]
 by_cases hj:i=j
 ·
  subst hj
  simp [h]
 · simp [hj]
structure SI (P:Program) (T kt et:TypeId) {κ:Type} [DecidableEq κ] (enc:κ→Value):Prop where
 aq:P.underlying T=some (.map kt et)
 zero:∀w,(zeroValue et).run P w= .ok (.int .i64 0) w
 eq:∀a b w,(Op.equal kt (enc a) (enc b)).run P w= .ok (decide (a=b)) w
 cw:∀e a w,(Instr.checkKey e 10000 kt (enc a)).run P w= .ok () w
 cx:∃d,P.underlying kt=some d∧((∀a b,Instr.sameNow d (enc a) (enc b)=none)∨∀a b,Instr.sameNow d (enc a) (enc b)=some (decide (a=b)))
 bits:∀a,Instr.sameBits 10000 (enc a) (enc a)=true
section
variable {P:Program} {L:Lg P} {n:Fm} {fz:Nat} {E:Env} {M0:Av} {w0:World} {S:Nat→Prop} {rs:List A0} {o:Oper} {κ:Type} [DecidableEq κ] {enc:κ→Value}
abbrev Ed (enc:κ→Value) (es:List (κ×Int)):List (Value×Value):=es.map fun p=>(enc p.1,.int .i64 p.2)
def G2 (enc:κ→Value) (b:Nat) (es:List (κ×Int)):A0 where
 D8:=some b
 new:=true
 h M w:=(∀o,M b o)∧w.heap[b]? =some (.map (Hy (Ed enc es)) es.length)
 st M w M' w' he hk h:=by
  obtain ⟨h1,h2⟩:=hk b rfl
  exact ⟨fun o=>h2 o (h.1 o),h1.trans h.2⟩
def look (es:List (κ×Int)) (k:κ):Option Int:=(es.find? fun p=>decide (k=p.1)).map (·.2)
def Ee (es:List (κ×Int)) (k:κ) (v:Int):List (κ×Int):=match es.findIdx? fun p=>decide (k=p.1) with|some i=>es.set i (k,v)|none=>es++[(k,v)]
theorem Jn {T kt et:TypeId} (hT:SI P T kt et enc) (k:κ) (w:World):∀(es:List (κ×Int)) (i c:Nat),
  (Instr.findAsking kt (enc k) ((es.zipIdx c).map fun p=>({ key:=enc p.1.1,val:= .int .i64 p.1.2,born:=p.2 }:MapEntry)) i).run P w= .ok ((es.findIdx? fun p=>decide (k=p.1)).bind fun j=>(es[j]?).map fun p=>(i+j,.int .i64 p.2)) w
 |[],i,c=>by simp [Instr.findAsking]
 |p::es,i,c=>by
  rw [List.zipIdx_cons,List.map_cons,Instr.findAsking,Sem.run_bind,hT.eq,Result.andThen_ok]
  by_cases h:k=p.1
  · simp [h,List.findIdx?_cons]
  ·
   rw [if_neg (by simpa using h),Jn hT k w es (i+1) (c+1),List.findIdx?_cons]
   simp only [h,decide_false,Bool.false_eq_true,if_false]
   congr 1
   cases hf:es.findIdx? fun p=>decide (k=p.1) with
   |none=>simp
   |some j=>simp [Nat.add_assoc,Nat.add_comm 1 j]
theorem OR {d:TypeDesc} (hn:∀a b:κ,Instr.sameNow d (enc a) (enc b)=some (decide (a=b))) (k:κ):∀(es:List (κ×Int)) (i c:Nat),
  Instr.findNow d (enc k) ((es.zipIdx c).map fun p=>({ key:=enc p.1.1,val:= .int .i64 p.1.2,born:=p.2 }:MapEntry)) i=some ((es.findIdx? fun p=>decide (k=p.1)).bind fun j=>(es[j]?).map fun p=>(i+j,.int .i64 p.2))
 |[],i,c=>by simp [Instr.findNow]
 |p::es,i,c=>by
  rw [List.zipIdx_cons,List.map_cons,Instr.findNow,hn]
  by_cases h:k=p.1
  · simp [h,List.findIdx?_cons]
  ·
   simp only [h,decide_false]
   rw [OR hn k es (i+1) (c+1),List.findIdx?_cons]
   simp only [h,decide_false,Bool.false_eq_true,if_false]
   congr 1
   cases hf:es.findIdx? fun p=>decide (k=p.1) with
   |none=>simp
   |some j=>simp [Nat.add_assoc,Nat.add_comm 1 j]
theorem OS {T kt et:TypeId} (hT:SI P T kt et enc) (k:κ) (w:World) (es:List (κ×Int)):
  (Instr.findKey kt (enc k) (Hy (Ed enc es)).toList).run P w= .ok ((es.findIdx? fun p=>decide (k=p.1)).bind fun j=>(es[j]?).map fun p=>(j,.int .i64 p.2)) w:=by
 obtain ⟨d,hd,hn⟩:=hT.cx
 have hl:(Hy (Ed enc es)).toList=(es.zipIdx 0).map fun p=>({ key:=enc p.1.1,val:= .int .i64 p.1.2,born:=p.2 }:MapEntry):=by
  simp [Hy,Ed,List.zipIdx_map]
 rw [hl]
 unfold Instr.findKey
 rw [Sem.run_bind,run_underlying hd,Result.andThen_ok]
 rcases hn with hn|hn
 rotate_left
 · rw [OR hn k es 0 0];simp
 cases es with
 |nil=>simp [Instr.findNow]
 |cons p es=>
  have h1:Instr.findNow d (enc k) (((p::es).zipIdx 0).map fun p=>({ key:=enc p.1.1,val:= .int .i64 p.1.2,born:=p.2 }:MapEntry)) 0=none:=by
   rw [List.zipIdx_cons,List.map_cons,Instr.findNow,hn]
  rw [h1]
  have:=Jn hT k w (p::es) 0 0
  simpa using this
theorem A1.cz {M:Av} {w:World} {obj:Obj} {r:A0} (h:A1 M0 w0 S rs M w) (hb:r.D8=some w.heap.size) (hn:r.new=true) (hr:r.h (fun b o=>M b o∨b=w.heap.size) (w.alloc obj)):
  A1 M0 w0 S (r::rs) (fun b o=>M b o∨b=w.heap.size) (w.alloc obj)∧Ext M w (fun b o=>M b o∨b=w.heap.size) (w.alloc obj):=by
 have aj:Below w.heap.size w (w.alloc obj):=(Below.refl _ _).alloc (Nat.le_refl _) _
 have hsz:(w.alloc obj).heap.size=w.heap.size+1:=by simp
 have he:Ext M w (fun b o=>M b o∨b=w.heap.size) (w.alloc obj):=by
  have h2:=Ext.below (M:=M) aj
  refine ⟨h2.size,fun a v hc hm=>⟨fun hx=> ?_,(h2.keep a v hc hm).2⟩,fun b o ho hp hm=>⟨fun hx=> ?_,(h2.obj b o ho hp hm).2⟩⟩
  ·
   rcases hx with hx|hx
   · exact hm hx
   · have:=Dq hc;omega
  ·
   rcases hx with hx|hx
   · exact hm hx
   · subst hx;simp at ho
 have hI:=(Hp M0 w0 S rs).st _ _ _ aj h
 refine ⟨⟨hI.m0,fun b o hm=> .inl (hI.m b o hm),hI.os,hI.tape,hI.output,hI.size,hI.block,fun b o hm=> ?_,fun r' hr'=> ?_,?_⟩,he⟩
 ·
  rcases hm with hm|hm
  · exact hI.bd b o hm
  · omega
 ·
  rcases List.mem_cons.1 hr' with rfl|hr'
  ·
   refine ⟨hr,fun b hbk=> ?_⟩
   rw [hb] at hbk
   injection hbk with hbk
   subst hbk
   exact ⟨by omega,by rw [hn];simpa using h.size⟩
  ·
   obtain ⟨h3,h4⟩:=h.hold r' hr'
   exact ⟨r'.st _ _ _ _ he (fun b hbk=>⟨aj.block b (h4 b hbk).1,fun _ x=> .inl x⟩) h3,fun b hbk=>⟨by have:=(h4 b hbk).1;omega,(h4 b hbk).2⟩⟩
 ·
  refine List.Pairwise.cons (fun r' hr' b hbk D_=> ?_) h.nd
  rw [hb] at hbk
  injection hbk with hbk
  have:=((h.hold r' hr').2 b D_).1
  omega
def IX (w:World) (b:Nat) (o:Obj):World:={ w with heap:=w.heap.setIfInBounds b o }
theorem RL {w:World} {b:Nat} {o:Obj} (h:b<w.heap.size):(IX w b o).heap[b]? =some o:=by
 show (w.heap.setIfInBounds b o)[b]? =_
 rw [Array.getElem?_setIfInBounds];simp [h]
theorem Hz {w:World} {b k:Nat} {o:Obj} (h:k≠b):(IX w b o).heap[k]? =w.heap[k]? :=by
 show (w.heap.setIfInBounds b o)[k]? =_
 rw [Array.getElem?_setIfInBounds,if_neg (fun e=>h e.symm)]
theorem A1.c_ {M:Av} {w:World} {obj:Obj} {r r':A0} {j b:Nat} (h:A1 M0 w0 S rs M w) (hj:rs[j]? =some r) (hb:r.D8=some b) (hb':r'.D8=some b) (hn:r.new=true) (hn':r'.new=true) (hM:∀o,M b o) (hr:r'.h M (IX w b obj)):
  A1 M0 w0 S (rs.set j r') M (IX w b obj)∧Ext M w M (IX w b obj):=by
 have hlt:=((h.hold r (List.mem_of_getElem? hj)).2 b hb).1
 have hsz:(IX w b obj).heap.size=w.heap.size:=by simp [IX]
 have he:Ext M w M (IX w b obj):=by
  refine ⟨by omega,fun a v hc hm=>⟨hm,?_⟩,fun k o ho hp hm=>⟨hm,?_⟩⟩
  · rw [World.cell?_of_block (w:=w) (Hz (fun e=>hm (by rw [e];exact hM _)))];exact hc
  · rw [Hz (fun e=>hm (by rw [e];exact hM _))];exact ho
 refine ⟨h.replace hj he rfl rfl rfl (fun k _ hk=>Hz (fun e=>hk (by rw [hb,e]))) hn (fun _ _ hm _=>hm) (fun k o hm=>by rw [hsz];exact h.bd k o hm) hr hn' (fun k hk=> ?_),he⟩
 rw [hb'] at hk
 injection hk with hk
 subst hk
 exact ⟨by omega,.inl hb⟩
variable {Q:Exit→Act→World→Prop} {ops:Array Oper} {r:List Oper}
omit [DecidableEq κ] in
theorem TO.Yj {d:Nat} {T:TypeId} (enc:κ→Value) (hg:o.guard=none) (hd:o.dst=some d) (hn:d<n) (ho:o.op= .makeMap T none)
  (k:∀b,TO P n ops r ((d,is (.map (some b)))::E) (Hp M0 w0 S (G2 enc b []::rs)) Q):TO P n ops (o::r) E (Hp M0 w0 S rs) Q:=
 TO.Pz hg fun K M w a hsz hdf he hI hK=>by
  refine TO.val (v:= .map (some w.heap.size)) (w':=w.alloc (.map #[] 0)) ?_ ?_
  · simp [execOp,ho,Instr.makeMap]
  ·
   obtain ⟨h2,h3⟩:=A1.cz (obj:= .map #[] 0) (r:=G2 enc w.heap.size []) hI rfl rfl ⟨fun _=> .inr rfl,by rw [heap_alloc_new];rfl⟩
   refine hK _ _ _ _ (k w.heap.size) ⟨_,by rw [Bn];exact hsz,by rw [put_defers];exact hdf,?_,h2⟩
   intro s p hp
   simp only [List.lookup] at hp
   by_cases hs:s=d
   · subst hs;simp at hp;subst hp;rw [hd,Bf (by rw [hsz];exact hn)];rfl
   ·
    rw [show (s==d)=false by simpa using hs] at hp
    rw [hd,Bm hs]
    exact p.st _ _ _ _ _ h3 (he s p hp)
theorem NW {β:Type} (p:β→Bool):∀l:List β,(l.findIdx? p).bind (fun j=>l[j]?)=l.find? p
 |[]=>rfl
 |a::l=>by
  have ih:=NW p l
  rw [List.findIdx?_cons,List.find?_cons]
  cases h:p a with
  |true=>simp
  |false=>
   simp only [Bool.false_eq_true,if_false]
   rw [←ih]
   cases l.findIdx? p<;>simp
theorem MR {T kt et:TypeId} {x y:Operand} {b j:Nat} {es:List (κ×Int)} (k:κ) {q:Pr} (hT:SI P T kt et enc) (ho:o.op= .lookup T x y true) (hx:VL E x (is (.map (some b)))) (hy:VL E y q) (hk:∀M w v,q.h M w v→v=enc k):
  II P M0 w0 S j (SR.c (G2 enc b es)) o E (DT [int ((look es k).getD 0),bool (look es k).isSome]):=by
 intro M w a rs he hI hj
 have h1:a.eval x=_:=hx.ev he (by simp [ho,Op.operands])
 have h2:a.eval y=enc k:=hk _ _ _ (hy.ev he (by simp [ho,Op.operands]))
 have hj':rs[j]? =some (G2 enc b es):=hj
 obtain ⟨_,hh⟩:=(hI.hold _ (List.mem_of_getElem? hj')).1
 have hrun:(execOp a.eval o).run P w= .ok (.value (.tuple #[.int .i64 ((look es k).getD 0),.bool (look es k).isSome])) w:=by
  have hf:=OS hT k w es
  have hg:=NW (fun p:κ×Int=>decide (k=p.1)) es
  unfold look
  cases SJ:es.findIdx? fun p=>decide (k=p.1) with
  |none=>
   rw [SJ] at hf hg
   rw [←hg]
   simp only [Option.bind_none] at hf
   simp [execOp,ho,h1,h2,Instr.lookup,run_underlying hT.aq,MapKept.run_getObj_map hh,hT.cw,hf,hT.zero,Result.andThen]
  |some i=>
   rw [SJ] at hf hg
   rw [←hg]
   have Dn:i<es.length:=by rw [List.findIdx?_eq_some_iff_getElem] at SJ;exact SJ.1
   simp only [Option.bind_some,List.getElem?_eq_getElem Dn,Option.map_some] at hf ⊢
   simp [execOp,ho,h1,h2,Instr.lookup,run_underlying hT.aq,MapKept.run_getObj_map hh,hT.cw,hf,Result.andThen]
 rw [hrun]
 exact ⟨⟨_,rfl,rfl,rfl,trivial⟩,Below.refl _ _⟩
theorem MS {es:List (κ×Int)} {k:κ} {v:Int} (h:(es.findIdx? fun p=>decide (k=p.1))=none):Ee es k v=es++[(k,v)]:=by unfold Ee;rw [h]
theorem HK {es:List (κ×Int)} {k:κ} {v:Int} {i:Nat} (h:(es.findIdx? fun p=>decide (k=p.1))=some i):Ee es k v=es.set i (k,v):=by unfold Ee;rw [h]
theorem Eu {T kt et:TypeId} {x y z:Operand} {b j:Nat} {es:List (κ×Int)} {v:Int} (k:κ) {q:Pr} (hT:SI P T kt et enc) (hg:o.guard=none) (hd:o.dst=none) (ho:o.op= .mapUpdate T x y z) (hx:VL E x (is (.map (some b)))) (hy:VL E y q) (hk:∀M w v,q.h M w v→v=enc k) (hz:VL E z (int v)):
  Du P M0 w0 S n j (SR.c (G2 enc b es)) (SR.c (G2 enc b (Ee es k v))) o E any:=by
 refine ⟨hg,fun M w a rs hsz he hI hj=> ?_⟩
 have h1:a.eval x=_:=hx.ev he (by simp [ho,Op.operands])
 have h2:a.eval y=enc k:=hk _ _ _ (hy.ev he (by simp [ho,Op.operands]))
 have h3:a.eval z=_:=hz.ev he (by simp [ho,Op.operands])
 have hj':rs[j]? =some (G2 enc b es):=hj
 obtain ⟨⟨hM,hh⟩,WM⟩:=hI.hold _ (List.mem_of_getElem? hj')
 have hlt:=(WM b rfl).1
 have hf:=OS hT k w es
 have hrun:(execOp a.eval o).run P w= .ok .skip (IX w b (.map (Hy (Ed enc (Ee es k v))) (Ee es k v).length)):=by
  cases SJ:es.findIdx? fun p=>decide (k=p.1) with
  |none=>
   rw [SJ] at hf
   simp only [Option.bind_none] at hf
   rw [MS SJ]
   have hp:Hy (Ed enc (es++[(k,v)]))=(Hy (Ed enc es)).push { key:=enc k,val:= .int .i64 v,born:=es.length }:=by
    have:=T_ (Ed enc es) (enc k) (.int .i64 v)
    rw [List.length_map] at this
    rw [this];simp [Ed]
   rw [hp]
   simp [execOp,ho,h1,h2,h3,Instr.mapUpdate,run_underlying hT.aq,MapKept.run_getObj_map hh,hT.cw,hf,MapKept.run_setObj_map _ hh,Result.andThen,IX]
  |some i=>
   have Dn:i<es.length:=by rw [List.findIdx?_eq_some_iff_getElem] at SJ;exact SJ.1
   have gY:(es[i]).1=k:=by
    rw [List.findIdx?_eq_some_iff_getElem] at SJ
    obtain ⟨_,h4,_⟩:=SJ
    simpa using (of_decide_eq_true h4).symm
   rw [SJ] at hf
   simp only [Option.bind_some,List.getElem?_eq_getElem Dn,Option.map_some] at hf
   rw [HK SJ]
   have hp:Hy (Ed enc (es.set i (k,v)))=(Hy (Ed enc es)).modify i fun e=>{ e with key:=enc k,val:= .int .i64 v }:=by
    rw [XB (by simpa using Dn)];simp [Ed]
   have hold:((Hy (Ed enc es))[i]?).map (·.key)=some (enc k):=by
    rw [G1];simp [Ed,List.getElem?_eq_getElem Dn,gY]
   rw [hp,List.length_set]
   simp [execOp,ho,h1,h2,h3,Instr.mapUpdate,run_underlying hT.aq,MapKept.run_getObj_map hh,hT.cw,hf,hold,Instr.keyThatStays,hT.bits,MapKept.run_setObj_map _ hh,Result.andThen,IX]
 rw [hrun]
 obtain ⟨h5,h6⟩:=A1.c_ (obj:= .map (Hy (Ed enc (Ee es k v))) (Ee es k v).length) (r':=G2 enc b (Ee es k v)) hI hj' rfl rfl rfl rfl hM ⟨hM,RL hlt⟩
 exact ⟨M,trivial,h6,h5⟩
def Jo (it b m:Nat) (seen:List Nat):A0 where
 D8:=some it
 new:=true
 h M w:=(∀o,M it o)∧w.heap[it]? =some (.mapIter (some b) m seen.toArray m)
 st M w M' w' he hk h:=by
  obtain ⟨h1,h2⟩:=hk it rfl
  exact ⟨fun o=>h2 o (h.1 o),h1.trans h.2⟩
theorem TO.range {d j b:Nat} {T kt et:TypeId} {x:Operand} {es:List (κ×Int)} (hT:SI P T kt et enc) (hg:o.guard=none) (hd:o.dst=some d) (hn:d<n) (ho:o.op= .range T x) (hx:VL E x (is (.map (some b)))) (hj:rs[j]? =some (G2 enc b es))
  (k:∀it,TO P n ops r ((d,ptr it 0)::E) (Hp M0 w0 S (Jo it b es.length []::rs)) Q):TO P n ops (o::r) E (Hp M0 w0 S rs) Q:=
 TO.Pz hg fun K M w a hsz hdf he hI hK=>by
  have h1:a.eval x=_:=hx.ev (o:=o) (Bq he) (by simp [ho,Op.operands])
  obtain ⟨_,hh⟩:=(A1.hold hI _ (List.mem_of_getElem? hj)).1
  refine TO.val (v:= .pointer (some ⟨w.heap.size,0,none⟩)) (w':=w.alloc (.mapIter (some b) es.length #[] es.length)) ?_ ?_
  · simp [execOp,ho,h1,run_range_map w T kt et b _ _ hT.aq hh]
  ·
   obtain ⟨h2,h3⟩:=A1.cz (obj:= .mapIter (some b) es.length #[] es.length) (r:=Jo w.heap.size b es.length []) hI rfl rfl ⟨fun _=> .inr rfl,by rw [heap_alloc_new]⟩
   refine hK _ _ _ _ (k w.heap.size) ⟨_,by rw [Bn];exact hsz,by rw [put_defers];exact hdf,?_,h2⟩
   intro s p hp
   simp only [List.lookup] at hp
   by_cases hs:s=d
   · subst hs;simp at hp;subst hp;rw [hd,Bf (by rw [hsz];exact hn)];rfl
   ·
    rw [show (s==d)=false by simpa using hs] at hp
    rw [hd,Bm hs]
    exact p.st _ _ _ _ _ h3 (he s p hp)
theorem mem_left {es:List (Value×Value)} {seen:List Nat} {e:MapEntry}:e∈(leftOf (Hy es) seen.toArray).toList↔∃q p,es[q]? =some p∧q∉seen∧e={ key:=p.1,val:=p.2,born:=q }:=by
 unfold leftOf
 rw [Array.toList_filter,List.mem_filter]
 constructor
 ·
  rintro ⟨h1,h2⟩
  obtain ⟨q,hq⟩:=List.mem_iff_getElem?.1 h1
  rw [Array.getElem?_toList,G1] at hq
  cases hp:es[q]? with
  |none=>rw [hp] at hq;cases hq
  |some p=>
   rw [hp] at hq
   simp only [Option.map_some,Option.some.injEq] at hq
   subst hq
   exact ⟨q,p,hp,by simpa using h2,rfl⟩
 ·
  rintro ⟨q,p,hp,hq,rfl⟩
  exact ⟨List.mem_iff_getElem?.2 ⟨q,by rw [Array.getElem?_toList,G1,hp];rfl⟩,by simpa using hq⟩
theorem NX {w:World} (ty:TypeId) {it b m:Nat} {seen:List Nat} {es:List (Value×Value)} (hm:es.length=m) (hit:w.heap[it]? =some (.mapIter (some b) m seen.toArray m)) (hb:w.heap[b]? =some (.map (Hy es) m)):
  ((∀q,q<m→q∈seen)∧(Instr.next (.pointer (some ⟨it,0,none⟩)) false ty).run P w= .ok (.tuple #[.bool false]) w)∨
  ∃q p,es[q]? =some p∧q∉seen∧∃w1,(w1=w∨w1=w.drew)∧(Instr.next (.pointer (some ⟨it,0,none⟩)) false ty).run P w= .ok (.tuple #[.bool true,p.1,p.2]) (IX w1 it (.mapIter (some b) m (seen++[q]).toArray m)):=by
 have hold:∀x∈(Hy es).toList,x.born<m:=by
  intro x hx
  obtain ⟨q,hq⟩:=List.mem_iff_getElem?.1 hx
  rw [Array.getElem?_toList,G1] at hq
  cases hp:es[q]? with
  |none=>rw [hp] at hq;cases hq
  |some p=>
   rw [hp] at hq
   simp only [Option.map_some,Option.some.injEq] at hq
   subst hq
   show q<m
   rcases Nat.lt_or_ge q es.length with h|h
   · omega
   · rw [List.getElem?_eq_none h] at hp;cases hp
 simp only [Instr.next,getObj,Sem.run_bind,Sem.run,hit,hb,Result.andThen,next_test_false seen.toArray (Hy es) m m hold (Nat.le_refl _),Bool.false_eq_true,if_false]
 have hleft:(Hy es).filter (fun e=> !seen.toArray.contains e.born)=leftOf (Hy es) seen.toArray:=rfl
 rw [hleft]
 have hmem:∀x∈(leftOf (Hy es) seen.toArray).toList,x.born<m:=fun x hx=>by
  obtain ⟨q,p,h1,_,rfl⟩:=mem_left.1 hx
  rcases Nat.lt_or_ge q es.length with h|h
  · show q<m;omega
  · rw [List.getElem?_eq_none h] at h1;cases h1
 have hml:∀e,e∈(leftOf (Hy es) seen.toArray).toList↔∃q p,es[q]? =some p∧q∉seen∧e={ key:=p.1,val:=p.2,born:=q }:=fun e=>mem_left
 generalize leftOf (Hy es) seen.toArray=L at hmem hml ⊢
 have e1:L.filter (fun x=>decide (x.born<m))=L:=Array.filter_eq_self.2 (fun x hx=>by simpa using hmem x (by simpa using hx))
 have e2:L.filter (fun x=>decide (x.born≥m))= #[]:=by
  rw [Array.filter_eq_empty_iff]
  intro x hx
  have:=hmem x (by simpa using hx)
  simp
  omega
 simp only [e1,e2,Array.append_empty]
 by_cases h0:L.size=0
 ·
  left
  have hL:L= #[]:=Array.eq_empty_of_size_eq_zero h0
  refine ⟨fun q hq=> ?_,?_⟩
  ·
   rcases Classical.em (q∈seen) with h|h
   · exact h
   ·
    have:=(hml { key:=(es[q]'(by omega)).1,val:=(es[q]'(by omega)).2,born:=q }).2 ⟨q,es[q]'(by omega),List.getElem?_eq_getElem (by omega),h,rfl⟩
    rw [hL] at this;simp at this
  ·
   subst hL
   simp [choose,Sem.run,Question.forced]
 ·
  right
  have hne:L.isEmpty=false:=by simp [Array.isEmpty,h0]
  simp only [hne,Bool.false_eq_true,if_false,Array.empty_append,Array.size_map]
  have hch:∃(j:Nat) (w1:World),j<L.size∧(w1=w∨w1=w.drew)∧(choose (Question.mapNext L.size)).run P w= .ok j w1:=by
   by_cases hf:L.size≤1
   · exact ⟨0,w,by omega,.inl rfl,by simp [choose,Sem.run,Question.forced,hf]⟩
   ·
    exact ⟨_, w.drew, Nat.mod_lt _ (by omega), .inr rfl, by
     simp only [choose,Sem.run,Question.forced,decide_eq_true_eq,hf,if_false,Question.cut]
     rfl⟩
  obtain ⟨j,w1,hj,E8,hrun⟩:=hch
  obtain ⟨q,p,hq1,SB,dA⟩:=(hml L[j]).1 (by simp)
  refine ⟨q,p,hq1,SB,w1,E8,?_⟩
  have hw1:w1.heap=w.heap:=by rcases E8 with rfl|rfl<;>rfl
  have GL:∀(o':Obj),(setObj it o').run P w1= .ok () (IX w1 it o'):=fun o'=>by
   have jF:w1.heap[it]? =some (.mapIter (some b) m seen.toArray m):=by rw [hw1];exact hit
   simp only [setObj,Sem.run,jF]
   rfl
  simp only [hrun,Array.getElem?_map,Array.getElem?_eq_getElem hj,Option.map_some,Sem.run_bind,GL,Result.andThen]
  rw [dA]
  simp
omit [DecidableEq κ] in
theorem TO.next {d i j it b:Nat} {x:Operand} {es:List (κ×Int)} {seen:List Nat} (hg:o.guard=none) (hd:o.dst=some d) (hn:d<n) (ho:o.op= .next x false) (hx:VL E x (ptr it 0)) (hi:rs[i]? =some (Jo it b es.length seen)) (hj:rs[j]? =some (G2 enc b es))
  (k1:(∀q,q<es.length→q∈seen)→TO P n ops r ((d,DT [bool false])::E) (Hp M0 w0 S rs) Q)
  (k2:∀q p,es[q]? =some p→q∉seen→TO P n ops r ((d,DT [bool true,is (enc p.1),int p.2])::E) (Hp M0 w0 S (rs.set i (Jo it b es.length (seen++[q])))) Q):TO P n ops (o::r) E (Hp M0 w0 S rs) Q:=
 TO.Pz hg fun K M w a hsz hdf he hI hK=>by
  have h1:a.eval x= .pointer (some ⟨it,0,none⟩):=hx.ev (o:=o) (Bq he) (by simp [ho,Op.operands])
  obtain ⟨⟨lR,hit⟩,lS⟩:=A1.hold hI _ (List.mem_of_getElem? hi)
  obtain ⟨_,hh⟩:=(A1.hold hI _ (List.mem_of_getElem? hj)).1
  have hlt:=(lS it rfl).1
  rcases NX (P:=P) o.type (es:=Ed enc es) (by simp [Ed]) hit hh with ⟨h2,h3⟩|⟨q,p,h2,h3,w1,h4,h5⟩
  ·
   refine TO.val (v:= .tuple #[.bool false]) (w':=w) ?_ ?_
   · simp [execOp,ho,h1,h3]
   ·
    refine hK _ _ _ _ (k1 h2) ⟨M,by rw [Bn];exact hsz,by rw [put_defers];exact hdf,?_,hI⟩
    intro s p hp
    simp only [List.lookup] at hp
    by_cases hs:s=d
    · subst hs;simp at hp;subst hp;rw [hd,Bf (by rw [hsz];exact hn)];exact ⟨_,rfl,rfl,trivial⟩
    ·
     rw [show (s==d)=false by simpa using hs] at hp
     rw [hd,Bm hs];exact he s p hp
  ·
   have mh:∃p',es[q]? =some p'∧p=(enc p'.1,.int .i64 p'.2):=by
    simp only [Ed,List.getElem?_map] at h2
    cases h:es[q]? with
    |none=>rw [h] at h2;cases h2
    |some p'=>rw [h] at h2;simp at h2;exact ⟨p',rfl,h2.symm⟩
   obtain ⟨p',KE,rfl⟩:=mh
   refine TO.val (v:= .tuple #[.bool true,enc p'.1,.int .i64 p'.2]) (w':=IX w1 it (.mapIter (some b) es.length (seen++[q]).toArray es.length)) ?_ ?_
   · simp [execOp,ho,h1,h5]
   ·
    have Zb:Below w.heap.size w w1:=by
     rcases h4 with rfl|rfl
     · exact Below.refl _ _
     · exact (Below.refl _ _).drew
    have jG:=(Hp M0 w0 S rs).st _ _ _ Zb hI
    obtain ⟨h6,h7⟩:=A1.c_ (obj:= .mapIter (some b) es.length (seen++[q]).toArray es.length) (r':=Jo it b es.length (seen++[q])) jG hi rfl rfl rfl rfl lR ⟨lR,RL (Nat.lt_of_lt_of_le hlt Zb.size)⟩
    refine hK _ _ _ _ (k2 q p' KE h3) ⟨M,by rw [Bn];exact hsz,by rw [put_defers];exact hdf,?_,h6⟩
    intro s p hp
    simp only [List.lookup] at hp
    by_cases hs:s=d
    · subst hs;simp at hp;subst hp;rw [hd,Bf (by rw [hsz];exact hn)];exact ⟨_,rfl,rfl,rfl,rfl,trivial⟩
    ·
     rw [show (s==d)=false by simpa using hs] at hp
     rw [hd,Bm hs]
     exact p.st _ _ _ _ _ ((Ext.below Zb).trans h7) (he s p hp)
omit [DecidableEq κ] in
theorem TO.entry {d i j it b q:Nat} {x:Operand} {es:List (κ×Int)} {seen:List Nat} {p:κ×Int} (hg:o.guard=none) (hd:o.dst=some d) (hn:d<n) (ho:o.op= .entry x) (hx:VL E x (ptr it 0)) (hi:rs[i]? =some (Jo it b es.length (seen++[q]))) (hj:rs[j]? =some (G2 enc b es)) (hq:es[q]? =some p)
  (k:TO P n ops r ((d,DT [is (enc p.1),int p.2])::E) (Hp M0 w0 S rs) Q):TO P n ops (o::r) E (Hp M0 w0 S rs) Q:=
 TO.Pz hg fun K M w a hsz hdf he hI hK=>by
  have h1:a.eval x= .pointer (some ⟨it,0,none⟩):=hx.ev (o:=o) (Bq he) (by simp [ho,Op.operands])
  obtain ⟨⟨_,hit⟩,_⟩:=A1.hold hI _ (List.mem_of_getElem? hi)
  obtain ⟨_,hh⟩:=(A1.hold hI _ (List.mem_of_getElem? hj)).1
  have cF:(Hy (Ed enc es))[q]? =some { key:=enc p.1,val:= .int .i64 p.2,born:=q }:=by rw [G1];simp [Ed,hq]
  have hnd:((Hy (Ed enc es)).toList.map (·.born)).Nodup:=by
   have:(Hy (Ed enc es)).toList.map (·.born)=List.range (Ed enc es).length:=by
    apply List.ext_getElem?
    intro k
    rw [List.getElem?_map,Array.getElem?_toList,G1]
    by_cases hk:k<(Ed enc es).length
    · rw [List.getElem?_range hk,List.getElem?_eq_getElem hk];rfl
    · rw [List.getElem?_eq_none (Nat.le_of_not_lt hk),List.getElem?_eq_none (by simp at hk ⊢;omega)];rfl
   rw [this];exact List.nodup_range
  have hfind:(Hy (Ed enc es)).find? (fun e=>e.born==q)=some { key:=enc p.1,val:= .int .i64 p.2,born:=q }:=by
   rw [←Array.find?_toList]
   exact find_born { key:=enc p.1,val:= .int .i64 p.2,born:=q } _ hnd (List.mem_iff_getElem?.2 ⟨q,by rw [Array.getElem?_toList];exact cF⟩)
  refine TO.val (v:= .tuple #[enc p.1,.int .i64 p.2]) (w':=w) ?_ ?_
  ·
   have:(Instr.entry (.pointer (some ⟨it,0,none⟩))).run P w= .ok (.tuple #[enc p.1,.int .i64 p.2]) w:=by
    have hb:(seen++[q]).toArray.back? =some q:=by simp
    simp only [Instr.entry,getObj,Sem.run_bind,Sem.run,hit,hh,Result.andThen,hb,bne_self_eq_false,Bool.false_eq_true,if_false,hfind]
    rfl
   simp [execOp,ho,h1,this]
  ·
   refine hK _ _ _ _ k ⟨M,by rw [Bn];exact hsz,by rw [put_defers];exact hdf,?_,hI⟩
   intro s p hp
   simp only [List.lookup] at hp
   by_cases hs:s=d
   · subst hs;simp at hp;subst hp;rw [hd,Bf (by rw [hsz];exact hn)];exact ⟨_,rfl,rfl,rfl,trivial⟩
   ·
    rw [show (s==d)=false by simpa using hs] at hp
    rw [hd,Bm hs];exact he s p hp
end
section
variable {P:Program} {L:Lg P}
def dB (P:Program) (e:Bool) (d:Nat) (cs:Array Value):List Field→Prop
 |[]=>True
 |f::fs=>(∃v,(∀w,(part f.type cs f.offset).run P w= .ok v w)∧∀w,(Instr.checkKey e d f.type v).run P w= .ok () w)∧dB P e d cs fs
theorem KK {t:TypeId} {k:IntKind} {e:Bool} {d:Nat} {v:Value} (ht:P.underlying t=some (.int k)) (w:World):(Instr.checkKey e (d+1) t v).run P w= .ok () w:=by
 simp [Instr.checkKey,run_underlying ht]
theorem RM {t:TypeId} {e:Bool} {d:Nat} {v:Value} (ht:P.underlying t=some .string) (w:World):(Instr.checkKey e (d+1) t v).run P w= .ok () w:=by
 simp [Instr.checkKey,run_underlying ht]
theorem dD {t:TypeId} {fs:Array Field} {e:Bool} {d:Nat} {cs:Array Value} (ht:P.underlying t=some (.struct fs)) (h:dB P e d cs fs.toList) (w:World):(Instr.checkKey e (d+1) t (.agg cs)).run P w= .ok () w:=by
 simp only [Instr.checkKey,Sem.run_bind,run_underlying ht,Result.andThen_ok]
 rw [←Array.forIn_toList]
 clear ht
 generalize fs.toList=l at h ⊢
 induction l with
 |nil=>simp
 |cons f fs ih=>
  obtain ⟨⟨v,h1,h2⟩,h3⟩:=h
  simp only [List.forIn_cons,Sem.run_bind,Sem.run_ite]
  split
  ·
   simp only [Sem.run_bind,h1,h2,Result.andThen_ok,Sem.run_pure]
   exact ih h3
  ·
   simp only [Sem.run_pure,Result.andThen_ok]
   exact ih h3
end
section
variable {P:Program} {L:Lg P} {n:Fm} {fz:Nat} {E:Env} {M0:Av} {w0:World} {S:Nat→Prop} {rs:List A0} {o:Oper}
theorem J7 (w:World) (A:Option Addr) (t ty e:TypeId) (i:TypeInfo) (z:Value) (ht:P.underlying t=some (.slice e)) (hi:P.info? e=some i) (hz:i.zero=some z)
  (a:Addr) (n c:Nat) (news:List Value) (hl:news.length=n*i.size) (hnews:∀j v,news[j]? =some v→w.cell? (a.add j)=some v)
  (h0:0<n) (h63:(n:Int)≤9223372036854775807) (h48:n*i.bytes≤281474976710656):
  (Builtin.append_ #[t, t] ty #[.slice A 0 0, .slice (some a) n c]).run P w =
   .ok (.slice (some ⟨w.heap.size,0,none⟩) n (grownCap w n 0 e)) (w.drew.alloc (.cells (news.toArray++Builtin.zeroCells z.cells (grownCap w n 0 e-n)) e)):=by
 cases A with
 |none=>exact run_append_nil (w:=w) t ty e i z ht hi hz a n c news hl hnews h0 h63 h48
 |some b=>
  have:=run_append_grow (w:=w) t ty e i z ht hi hz b 0 0 [] (by simp) (by simp) a n c news hl hnews (by omega) (by simpa using h63) (by rw [Nat.zero_add,nextslicecap_zero h0];exact h48)
  simpa using this
theorem OU {M:Av} {w:World} {t ty e:TypeId} {sz bytes:Nat} {zs:List Value} {rows:List (List Pr)} {u:Value} {j:Nat} (A:Option Addr) (ht:P.underlying t=some (.slice e)) (hz:BJ P e=some sz) (hby:CH P e=some bytes) (DU:Br P e=some zs) (hzl:zs.length=sz) (hone:zs.all (·.oneCell')=true) (hsz:0<sz)
  (h:A1 M0 w0 S rs M w) (hj:rs[j]? =some Bz) (hu:(slice sz rows).h M w u) (hpos:0<rows.length) (Dw:rows.length≤maxLen) (hfit:rows.length*bytes≤140737488355328):
  ∃v' w' M',(Builtin.append_ #[t,t] ty #[.slice A 0 0,u]).run P w= .ok v' w'∧(lens rows.length).h M' w' v'∧Ext M w M' w'∧A1 M0 w0 S (rs.set j (DZ e sz rows v')) M' w':=by
 unfold BJ at hz
 unfold CH at hby
 unfold Br at DU
 cases hi:P.info? e with
 |none=>rw [hi] at hz;cases hz
 |some i=>
  rw [hi] at hz hby DU
  simp only [Option.map_some,Option.some.injEq,Option.map_eq_some_iff] at hz hby DU
  obtain ⟨z,Px,DU⟩:=DU
  have WN:z.cells.size=sz:=by rw [←hzl,←DU];simp
  obtain ⟨A',c',rfl,ZB,P5,Wi,E2⟩:=hu
  have L6:(slice sz rows).h M w (.slice A' rows.length c'):=⟨A',c',rfl,ZB,P5,Wi,E2⟩
  obtain ⟨MJ,rfl⟩:∃MJ,A'=some MJ:=by
   obtain ⟨_,b,hb,_⟩:=E2 0 _ (List.getElem?_eq_getElem hpos)
   exact ⟨b,hb⟩
  obtain ⟨news,hfl,hcell⟩:=EB hsz L6
  have hrun:=J7 (P:=P) w A t ty e i z ht hi Px MJ rows.length c' news (by rw [hz];exact hfl.1) (fun k u hk=>(hcell k u hk).1) hpos (by unfold maxLen at Dw;omega) (by rw [hby];omega)
  generalize hcap:grownCap w rows.length 0 e=cap at hrun
  have hge:rows.length≤cap:=by rw [←hcap];exact grownCap_ge _ _ _ _
  have hle:cap≤maxLen:=by rw [←hcap];exact grownCap_le_maxLen _ _ _ _ Dw
  generalize L7:Builtin.zeroCells z.cells (cap-rows.length)=zc at hrun
  have hzs:zc.size=(cap-rows.length)*sz:=by rw [←L7,size_zeroCells,WN]
  have cq:∀c∈zc.toList,c.oneCell'=true:=by rw [←L7];exact EP DU hone
  have hb:Below w.heap.size w (w.drew.alloc (.cells (news.toArray++zc) e)):=((Below.refl _ _).drew).alloc (Nat.le_refl _) _
  have h2:=Ext.below (M:=M) hb
  have FL:Ext M w (fun b o=>M b o∨b=w.heap.size) (w.drew.alloc (.cells (news.toArray++zc) e)):=by
   refine ⟨h2.size,fun a v hc hm=>⟨fun hx=> ?_,(h2.keep a v hc hm).2⟩,fun b o ho hp hm=>⟨fun hx=> ?_,(h2.obj b o ho hp hm).2⟩⟩
   ·
    rcases hx with hx|hx
    · exact hm hx
    · have:=Dq hc;omega
   ·
    rcases hx with hx|hx
    · exact hm hx
    · subst hx;simp at ho
  have hs1:(w.drew.alloc (.cells (news.toArray++zc) e)).heap.size=w.heap.size+1:=by simp
  refine ⟨_,_,fun b o=>M b o∨b=w.heap.size,hrun,⟨_,_,rfl⟩,FL,?_⟩
  refine h.replace hj FL hb.os hb.tape hb.output (fun k hk _=>hb.block k hk) rfl (fun b o hm _=> .inl hm) (fun b o hx=> ?_) ?_ rfl (fun b hbk=> ?_)
  ·
   rcases hx with hx|hx
   · have:=h.bd _ _ hx;omega
   · omega
  ·
   refine ⟨w.heap.size,cap,zc.toList,rfl,hge,hle,by simpa using hzs,fun o=> .inr rfl,news++zc.toList,?_,?_,?_⟩
   ·
    have hh:(w.drew.alloc (.cells (news.toArray++zc) e)).heap[w.heap.size]? =some (.cells (news.toArray++zc) e (0,0)):=heap_alloc_new w.drew _
    rw [hh];simp
   · exact ((hfl.st FL).hl hsz).app (Kj _ _ _)
   ·
    intro c hc
    rcases List.mem_append.1 hc with hc|hc
    · exact hfl.2.1 c hc
    · exact cq c hc
  ·
   have D_:some w.heap.size=some b:=hbk
   injection D_ with e1
   subst e1
   exact ⟨by rw [hs1];omega,.inr (Nat.le_refl _)⟩
theorem K1 {t e:TypeId} {x y:Operand} {sz':Nat} {sz bytes d:Nat} {zs:List Value} {rows:List (List Pr)} {j:Nat} (hg:o.guard=none) (hd:o.dst=some d) (hn:d<n) (ho:o.op= .call { callee:= .builtin .append,args:= #[x,y],argTypes:= #[t,t] })
  (ht:P.underlying t=some (.slice e)) (hz:BJ P e=some sz) (hby:CH P e=some bytes) (DU:Br P e=some zs) (hzl:zs.length=sz) (hone:zs.all (·.oneCell')=true) (hsz:0<sz)
  (hx:VL E x (full sz' [])) (hy:VL E y (slice sz rows)) (hpos:0<rows.length) (Dw:rows.length≤maxLen) (hfit:rows.length*bytes≤140737488355328):Du P M0 w0 S n j (SR.c Bz) ⟨d,DZ e sz rows⟩ o E (lens rows.length):=by
 refine ⟨hg,fun M w a rs L9 he hI hj=> ?_⟩
 have h2:=hy.ev he (by simp [ho,Op.operands,Call.operands])
 obtain ⟨_,A,h1⟩:=hx.ev he (by simp [ho,Op.operands,Call.operands])
 simp only [List.length_nil] at h1
 obtain ⟨v',w',M',hrun,h3,h4,h5⟩:=OU A (ty:=o.type) ht hz hby DU hzl hone hsz hI hj h2 hpos Dw hfit
 have DO:(execOp a.eval o).run P w= .ok (.value v') w':=by simp [execOp,ho,resolve,invoke,builtin,h1,hrun]
 rw [DO]
 refine ⟨M',h3,h4,?_⟩
 have:(SR.at_ (a.put o.dst v') ⟨d,DZ e sz rows⟩)=DZ e sz rows v':=by unfold SR.at_ Slot.val;dsimp only;rw [hd,Bf (by rw [L9];exact hn)]
 rw [this];exact h5
theorem Dz {I:CL} {t e:TypeId} {x:Operand} {A:Option Addr} {m cap:Nat} (ho:o.op= .call { callee:= .builtin .len,args:= #[x],argTypes:= #[t] }) (ht:P.underlying t=some (.slice e)) (hx:VL E x (is (.slice A m cap))):Ab P I o E (int m):=
 Ab.same fun M w a he _=>by
  have h1:a.eval x=_:=hx.ev he (by simp [ho,Op.operands,Call.operands])
  exact ⟨.int .i64 m,by simp [execOp,ho,resolve,invoke,builtin,Builtin.len_,h1,run_underlying ht,goInt],rfl⟩
theorem G3 {I:CL} {t e:TypeId} {x y:Operand} {k:IntKind} {h:Int} {sz b m cap:Nat} (ho:o.op= .slice t x none (some y) none) (ht:P.underlying t=some (.slice e)) (hz:BJ P e=some sz) (hx:VL E x (is (.slice (some ⟨b,0,none⟩) m cap))) (hy:VL E y (is (.int k h))) (h0:0≤h) (hl:h≤m) (hc:m≤cap) (gZ:0<cap):
  Ab P I o E (is (.slice (some ⟨b,0,none⟩) h.toNat cap)):=
 Ab.same fun M w a he _=>by
  have h1:a.eval x=_:=hx.ev he (by simp [ho,Op.operands])
  have h3:a.eval y=_:=hy.ev he (by simp [ho,Op.operands])
  have hb:h≤(cap:Int):=by omega
  refine ⟨_,?_,rfl⟩
  simp [execOp,ho,h1,h3,Instr.sliceAt,Instr.slice,run_underlying ht,Instr.sliceBounds,Instr.sliceBound,asIntOf,h0,hb,B1 hz]
  intro _;rfl
theorem ER {I:CL} {t e:TypeId} {x y:Operand} {k:IntKind} {l:Int} {sz b m cap:Nat} (ho:o.op= .slice t x (some y) none none) (ht:P.underlying t=some (.slice e)) (hz:BJ P e=some sz) (hx:VL E x (is (.slice (some ⟨b,0,none⟩) m cap))) (hy:VL E y (is (.int k l))) (h0:0≤l) (hl:l<m) (hc:m≤cap):
  Ab P I o E (is (.slice (some ⟨b,l.toNat*sz,none⟩) (m-l.toNat) (cap-l.toNat))):=
 Ab.same fun M w a he _=>by
  have h1:a.eval x=_:=hx.ev he (by simp [ho,Op.operands])
  have h3:a.eval y=_:=hy.ev he (by simp [ho,Op.operands])
  have hb:l≤(m:Int):=by omega
  have hne:¬cap=l.toNat:=by omega
  refine ⟨_,?_,rfl⟩
  simp [execOp,ho,h1,h3,Instr.sliceAt,Instr.slice,run_underlying ht,Instr.sliceBounds,Instr.sliceBound,asIntOf,h0,hb,B1 hz,hne,EU]
theorem XC {M:Av} {w:World} {zs:List Value} {z:Array Value} {k:Nat} (hz:z.toList=zs) (h0:0<zs.length):HL M w (List.replicate k (zs.map is)).flatten (Builtin.zeroCells z k).toList:=by
 have hlr:∀r∈List.replicate k (zs.map is),r.length=zs.length:=fun r hr=>by rw [List.eq_of_mem_replicate hr,List.length_map]
 have hfl:=Bt hlr
 rw [List.length_replicate] at hfl
 have hzs:z.size=zs.length:=by rw [←hz];simp
 refine OO (by rw [Array.length_toList,size_zeroCells,hfl,hzs]) fun i p hi=> ?_
 have Dn:i<k*zs.length:=by rw [←hfl];rcases Nat.lt_or_ge i (List.replicate k (zs.map is)).flatten.length with h|h;exact h;rw [List.getElem?_eq_none h] at hi;cases hi
 have hq:i/zs.length<k:=Nat.div_lt_of_lt_mul (by rw [Nat.mul_comm];exact Dn)
 have hm:i % zs.length<zs.length:=Nat.mod_lt _ h0
 have he:i/zs.length*zs.length+i % zs.length=i:=by rw [Nat.mul_comm];exact Nat.div_add_mod i _
 rw [←he,GS hlr (by rw [List.getElem?_replicate,if_pos hq]) hm,List.getElem?_map,List.getElem?_eq_getElem hm] at hi
 simp only [Option.map_some,Option.some.injEq] at hi
 subst hi
 refine ⟨zs[i % zs.length],?_,rfl⟩
 have hzl:i<k*z.size:=by rw [hzs];exact Dn
 simp only [Builtin.zeroCells,Array.toList_map,Array.toList_range,List.getElem?_map]
 rw [List.getElem?_range hzl]
 subst hz
 simp only [Option.map_some,Option.some.injEq]
 have hm':i % z.size<z.size:=by rw [hzs];exact hm
 rw [getElem!_pos z _ hm',←Array.getElem_toList]
 congr 1
theorem K2 {t e:TypeId} {x:Operand} {j:Nat} {new:Bool} {b off m cap sz:Nat} {zs:List Value} {T:TypeId} {ps ps':List Pr} (hg:o.guard=none) (ho:o.op= .call { callee:= .builtin .clear,args:= #[x],argTypes:= #[t] })
  (ht:P.underlying t=some (.slice e)) (hz:BJ P e=some sz) (DU:Br P e=some zs) (hzl:zs.length=sz) (hone:zs.all (·.oneCell')=true) (hsz:0<sz) (hx:VL E x (is (.slice (some ⟨b,off,none⟩) m cap))) (hm:0<m)
  (hl:off+m*sz≤ps.length) (hps:ps.take off++(List.replicate m (zs.map is)).flatten++ps.drop (off+m*sz)=ps'):Du P M0 w0 S n j (SR.c (AD new b T ps)) (SR.c (AD new b T ps')) o E any:=by
 refine ⟨hg,fun M w a rs L9 he hI hj=> ?_⟩
 have h1:a.eval x=_:=hx.ev he (by simp [ho,Op.operands,Call.operands])
 unfold Br at DU
 cases hi:P.info? e with
 |none=>rw [hi] at DU;cases DU
 |some i=>
  rw [hi] at DU
  simp only [Option.map_eq_some_iff] at DU
  obtain ⟨z,Px,DU⟩:=DU
  have WN:z.cells.size=sz:=by rw [←hzl,←DU];simp
  obtain ⟨⟨_,cs,h4,h5,h6⟩,_⟩:=hI.hold _ (List.mem_of_getElem? hj)
  have bZ:=h5.length
  have hzs:(Builtin.zeroCells z.cells m).size=m*sz:=by rw [size_zeroCells,WN]
  have h3:∀c∈(Builtin.zeroCells z.cells m).toList,c.oneCell'=true:=EP DU hone
  have hrun:(storeCells ⟨b,off,none⟩ (Builtin.zeroCells z.cells m).toList 0).run P w= .ok () (w.setRow b (cs.take off++(Builtin.zeroCells z.cells m).toList++cs.drop (off+m*sz)).toArray):=by
   have:=run_storeCells_at (P:=P) b off T (Builtin.zeroCells z.cells m).toList 0 cs.toArray w h4 (by simp [hzs];omega) h3
   simpa [hzs] using this
  obtain ⟨m',rfl⟩:∃m',m=m'+1:=⟨m-1,by omega⟩
  have DO:(execOp a.eval o).run P w= .ok (.value (.tuple #[])) (w.setRow b (cs.take off++(Builtin.zeroCells z.cells (m'+1)).toList++cs.drop (off+(m'+1)*sz)).toArray):=by
   simp [execOp,ho,h1,resolve,invoke,builtin,Builtin.clear_,run_underlying ht,zeroValue,typeInfo,hi,Px,hrun]
  rw [DO]
  obtain ⟨h7, h8⟩ := A1.write (qs := ps') (cs := cs.take off ++ (Builtin.zeroCells z.cells (m' + 1)).toList ++ cs.drop (off + (m' + 1) * sz)) hI hj (by rw [← hps]; exact (((h5.take off).app (XC DU (by omega)))).app (h5.drop (off + (m' + 1) * sz)))
   (fun c hc=>by
    simp only [List.mem_append] at hc
    rcases hc with (hc|hc)|hc
    · exact h6 c (List.mem_of_mem_take hc)
    · exact h3 c hc
    · exact h6 c (List.mem_of_mem_drop hc))
  exact ⟨M,trivial,h8,h7⟩
theorem OV {β:Type} {f:β→List Pr} {l:List β} {qs:List Pr} {sz:Nat} (hf:∀x,(f x).length=sz) {i:Nat} {x:β} (h:l[i]? =some x):((((l.map f).flatten++qs).drop (i*sz)).take sz)=f x:=by
 have hl:∀r∈l.map f,r.length=sz:=fun r hr=>by obtain ⟨y,_,rfl⟩:=List.mem_map.1 hr;exact hf y
 have hi:i<l.length:=by rcases Nat.lt_or_ge i l.length with h'|h';exact h';rw [List.getElem?_eq_none h'] at h;cases h
 have hfl:=Bt hl
 rw [List.length_map] at hfl
 have hle:(i+1)*sz≤l.length*sz:=Nat.mul_le_mul_right sz hi
 rw [Nat.add_mul,Nat.one_mul] at hle
 apply List.ext_getElem?
 intro k
 rw [List.getElem?_take]
 split
 ·
  rename_i hk
  rw [List.getElem?_drop,List.getElem?_append_left (by rw [hfl];omega),GS hl (by rw [List.getElem?_map,h];rfl) hk]
 ·
  rename_i hk
  rw [List.getElem?_eq_none (by rw [hf];omega)]
theorem JI {β:Type} {f:β→List Pr} {sz:Nat} (hf:∀x,(f x).length=sz):∀{l:List β} {qs:List Pr} {i:Nat} {x:β},i<l.length→((l.map f).flatten++qs).take (i*sz)++f x++((l.map f).flatten++qs).drop (i*sz+sz)=((l.set i x).map f).flatten++qs
 |[],_,_,_,h=>by simp at h
 |a::l,qs,0,x,_=>by
  simp only [List.map_cons,List.flatten_cons,Nat.zero_mul,List.take_zero,List.nil_append,Nat.zero_add,List.set_cons_zero]
  rw [←hf a,List.append_assoc,List.drop_left,List.append_assoc]
 |a::l,qs,i+1,x,h=>by
  have ih:=JI hf (l:=l) (qs:=qs) (i:=i) (x:=x) (by simpa using h)
  simp only [List.map_cons,List.flatten_cons,List.set_cons_succ]
  have e1:(i+1)*sz=(f a).length+i*sz:=by rw [hf a,Nat.add_mul];omega
  rw [List.append_assoc,List.append_assoc,e1,List.take_append,List.take_of_length_le (by omega),show (f a).length+i*sz-(f a).length=i*sz by omega,show (f a).length+i*sz+sz=(f a).length+(i*sz+sz) by omega,List.drop_append,List.drop_of_length_le (by omega),show (f a).length+(i*sz+sz)-(f a).length=i*sz+sz by omega,List.nil_append,List.append_assoc (f a) _ qs,←ih]
  simp only [List.append_assoc]
theorem OW {β:Type} {f:β→List Pr} {sz:Nat} (hf:∀x,(f x).length=sz) {z:β} {l:List β} {qs:List Pr} {i:Nat} (h:i≤l.length):
  ((l.map f).flatten++qs).take (i*sz)++(List.replicate (l.length-i) (f z)).flatten++((l.map f).flatten++qs).drop (i*sz+(l.length-i)*sz)=((l.take i++List.replicate (l.length-i) z).map f).flatten++qs:=by
 have hl:∀r∈l.map f,r.length=sz:=fun r hr=>by obtain ⟨y,_,rfl⟩:=List.mem_map.1 hr;exact hf y
 have Zc:∀r∈(l.take i).map f,r.length=sz:=fun r hr=>by obtain ⟨y,_,rfl⟩:=List.mem_map.1 hr;exact hf y
 have e1:i*sz+(l.length-i)*sz=((l.map f).flatten).length:=by rw [Bt hl,List.length_map,←Nat.add_mul];congr 1;omega
 have e2:(l.map f).flatten=((l.take i).map f).flatten++((l.drop i).map f).flatten:=by rw [←List.flatten_append,←List.map_append,List.take_append_drop]
 have e3:(((l.take i).map f).flatten).length=i*sz:=by rw [Bt Zc,List.length_map,List.length_take];congr 1;omega
 rw [e1,List.drop_left,List.map_append,List.flatten_append,List.map_replicate]
 congr 2
 rw [e2,List.append_assoc,←e3,List.take_left]
theorem TO.He {ops:Array Oper} {r:List Oper} {Q:Exit→Act→World→Prop} {e:TypeId} {sz:Nat} {rows:List (List Pr)} {v:Value} (j:Nat) (hj:rs[j]? =some (DZ e sz rows v))
  (k:∀(b cap:Nat) (spare:List Value),v= .slice (some ⟨b,0,none⟩) rows.length cap→rows.length≤cap→cap≤maxLen→spare.length=(cap-rows.length)*sz→TO P n ops r E (Hp M0 w0 S (rs.set j (AD true b e (rows.flatten++spare.map is)))) Q):TO P n ops r E (Hp M0 w0 S rs) Q:=
 fun m hl a w hs=>let ⟨b,cap,spare,h1,h2,h3,h4,h5⟩:=hs.He j hj;k b cap spare h1 h2 h3 h4 m hl a w h5
theorem AV {β:Type} {f:β→List Pr} {l:List β} {qs:List Pr} {sz:Nat} (hf:∀x,(f x).length=sz):((l.map f).flatten++qs).length=l.length*sz+qs.length:=by
 rw [List.length_append,Bt (sz:=sz) (fun r hr=>by obtain ⟨y,_,rfl⟩:=List.mem_map.1 hr;exact hf y),List.length_map]
theorem A8 {β:Type} {f:β→List Pr} {l:List β} {sz:Nat} (hf:∀x,(f x).length=sz):∀r∈l.map f,r.length=sz:=fun r hr=>by obtain ⟨y,_,rfl⟩:=List.mem_map.1 hr;exact hf y
theorem SK {β:Type} {f:β→List Pr} {l:List β} {qs:List Pr} {sz:Nat} (hf:∀x,(f x).length=sz) {i:Nat} {x:β} (h:l[i]? =some x):((((l.map f).flatten++qs).drop (0+((i:Nat):Int).toNat*sz)).take sz)=f x:=by
 rw [Nat.zero_add,Int.toNat_natCast];exact OV hf h
theorem H6 {β:Type} {f:β→List Pr} {sz:Nat} (hf:∀x,(f x).length=sz) {l:List β} {qs:List Pr} {i:Nat} {x:β} (h:i<l.length):((l.map f).flatten++qs).take (0+((i:Nat):Int).toNat*sz)++f x++((l.map f).flatten++qs).drop (0+((i:Nat):Int).toNat*sz+sz)=((l.set i x).map f).flatten++qs:=by
 rw [Nat.zero_add,Int.toNat_natCast];exact JI hf h
theorem NY {β:Type} {f:β→List Pr} {sz:Nat} (hf:∀x,(f x).length=sz) {z:β} {l:List β} {qs:List Pr} {i m:Nat} (hm:m=l.length-((i:Nat):Int).toNat) (h:i≤l.length):
  ((l.map f).flatten++qs).take (((i:Nat):Int).toNat*sz)++(List.replicate m (f z)).flatten++((l.map f).flatten++qs).drop (((i:Nat):Int).toNat*sz+m*sz)=((l.take i++List.replicate (l.length-i) z).map f).flatten++qs:=by
 rw [Int.toNat_natCast] at hm;subst hm;rw [Int.toNat_natCast];exact OW hf h
def NZ {β:Type} (p:β→Bool) (l st:List β) (i j:Nat):Prop:=st.length=l.length∧i<j∧j≤l.length∧st.take i=(l.take j).filter (fun x=> !p x)∧st.drop j=l.drop j
theorem OX {β:Type} {p:β→Bool} {l st:List β} {i j:Nat} {x:β} (h:NZ p l st i j) (hx:l[j]? =some x) (hp:p x=false):NZ p l (st.set i x) (i+1) (j+1):=by
 obtain ⟨h1,h2,h3,h4,h5⟩:=h
 have hj:j<l.length:=by rcases Nat.lt_or_ge j l.length with h'|h';exact h';rw [List.getElem?_eq_none h'] at hx;cases hx
 refine ⟨by rw [List.length_set,h1],by omega,hj,?_,?_⟩
 ·
  rw [List.take_add_one,List.getElem?_set_self (by omega),List.take_set_of_le (Nat.le_refl _),h4,List.take_add_one,hx,List.filter_append]
  simp [hp]
 · rw [List.drop_set_of_lt (by omega),←List.drop_drop,←List.drop_drop,h5]
theorem OY {β:Type} {p:β→Bool} {l st:List β} {i j:Nat} {x:β} (h:NZ p l st i j) (hx:l[j]? =some x) (hp:p x=true):NZ p l st i (j+1):=by
 obtain ⟨h1,h2,h3,h4,h5⟩:=h
 have hj:j<l.length:=by rcases Nat.lt_or_ge j l.length with h'|h';exact h';rw [List.getElem?_eq_none h'] at hx;cases hx
 refine ⟨h1,by omega,hj,?_,?_⟩
 · rw [h4,List.take_add_one,hx,List.filter_append];simp [hp]
 · rw [←List.drop_drop,←List.drop_drop,h5]
theorem UA {β:Type} {p:β→Bool} {l st:List β} {i j:Nat} (h:NZ p l st i j):st[j]? =l[j]? :=by
 have:=congrArg (fun q=>q[0]?) h.2.2.2.2
 simpa using this
theorem RN {β:Type} {p:β→Bool} {l st:List β} {i:Nat} (h:NZ p l st i l.length):st.take i=l.filter (fun x=> !p x)∧i=(l.filter (fun x=> !p x)).length∧st.length=l.length∧i<l.length:=by
 obtain ⟨h1,h2,h3,h4,h5⟩:=h
 rw [List.take_length] at h4
 exact ⟨h4,by rw [←h4,List.length_take];omega,h1,h2⟩
theorem St.K3 {b cap sz:Nat} {e:TypeId} {rows:List (List Pr)} {qs:List Pr} (j d:Nat) {p:Pr} (hj:rs[j]? =some (AD true b e (rows.flatten++qs))) (hd:E.lookup d=some p) (hp:Pr.le p (is (.slice (some ⟨b,0,none⟩) rows.length cap)))
  (hl:∀r∈rows,r.length=sz) (hc:rows.length≤cap) (hm:cap≤maxLen) (hq:qs.length=(cap-rows.length)*sz)
  {a:Act} {w:World} (h:St n E (Hp M0 w0 S rs) a w):St n ((d,BB (.slice (some ⟨b,0,none⟩) rows.length cap) (slice sz rows))::E) (Hp M0 w0 S (rs.set j (BX e sz (.slice (some ⟨b,0,none⟩) rows.length cap)))) a w:=by
 obtain ⟨M,h1,h2,h3,h4⟩:=h
 obtain ⟨M',h5,h6,h7⟩:=A1.cr h4 hj hl hc hm hq
 refine ⟨M',h1,h2,fun s q hs=> ?_,h6⟩
 simp only [List.lookup] at hs
 split at hs
 ·
  rename_i e1
  have:s=d:=by simpa using e1
  subst this
  simp only [Option.some.injEq] at hs
  subst hs
  have h8:=hp _ _ _ (h3 _ _ hd)
  exact ⟨h8,by rw [show a.tmps.getD s undef=_ from h8];exact h7⟩
 · exact q.st _ _ _ _ _ h5 (h3 s q hs)
theorem Tr.K3 {Q:Exit→Act→World→Prop} {c:Code} {b cap sz:Nat} {e:TypeId} (rows:List (List Pr)) {qs:List Pr} (j d:Nat) {p:Pr} (hj:rs[j]? =some (AD true b e (rows.flatten++qs))) (hd:E.lookup d=some p) (hp:Pr.le p (is (.slice (some ⟨b,0,none⟩) rows.length cap)))
  (hl:∀r∈rows,r.length=sz) (hc:rows.length≤cap) (hm:cap≤maxLen) (hq:qs.length=(cap-rows.length)*sz)
  (k:Tr L n ((d,BB (.slice (some ⟨b,0,none⟩) rows.length cap) (slice sz rows))::E) (Hp M0 w0 S (rs.set j (BX e sz (.slice (some ⟨b,0,none⟩) rows.length cap)))) c Q):Tr L n E (Hp M0 w0 S rs) c Q:=
 Tr.conv (fun _ _ hs=>hs.K3 j d hj hd hp hl hc hm hq) k
theorem Fin.K3 {Q:Exit→Act→World→Prop} {x:Exit} {b cap sz:Nat} {e:TypeId} (rows:List (List Pr)) {qs:List Pr} (j d:Nat) {p:Pr} (hj:rs[j]? =some (AD true b e (rows.flatten++qs))) (hd:E.lookup d=some p) (hp:Pr.le p (is (.slice (some ⟨b,0,none⟩) rows.length cap)))
  (hl:∀r∈rows,r.length=sz) (hc:rows.length≤cap) (hm:cap≤maxLen) (hq:qs.length=(cap-rows.length)*sz)
  (k:Fin n ((d,BB (.slice (some ⟨b,0,none⟩) rows.length cap) (slice sz rows))::E) (Hp M0 w0 S (rs.set j (BX e sz (.slice (some ⟨b,0,none⟩) rows.length cap)))) Q x):Fin n E (Hp M0 w0 S rs) Q x:=
 Fin.conv (fun _ _ hs=>hs.K3 j d hj hd hp hl hc hm hq) k
end
section
variable {P:Program} {L:Lg P} {n:Fm} {fz:Nat} {E:Env} {M0:Av} {w0:World} {S:Nat→Prop} {rs:List A0} {o:Oper} {g:Func} {M1:Av} {w1:World}
def H7:Value→Value
 | .tuple xs=>xs.getD 0 (.tuple #[])
 |v=>v
theorem Fin.dF {t u:Tmp} {f:Value→A0} {a:Value} {p q p' q':Pr} (hr:g.results= #[.tmp t,.tmp u]) (h:E.lookup t=some q) (hl:Pr.le q p) (ha:Pr.le q (is a)) (h':E.lookup u=some q') (hl':Pr.le q' p'):
  Fin ⟨fz,[]⟩ E (Hp M0 w0 S (f a::Ai M1 w1::rs)) (bodyPost P g (Jm M0 w0 S rs M1 w1 (DT [p,p']) (fun v=>f (H7 v)))) .ret:=by
 rintro x w ⟨M,_,hd,he,hi⟩
 obtain ⟨h1,h2⟩:=SF hi
 have hq:=he _ _ h
 have hv:=ha _ _ _ hq
 refine ⟨hd,_,Jh hr _ _,_,M,rfl,⟨[_,_],rfl,hl _ _ _ hq,hl' _ _ _ (he _ _ h'),trivial⟩,h1,?_⟩
 have:H7 (.tuple #[x.tmps.getD t undef,x.tmps.getD u undef])=a:=hv
 show A1 M0 w0 S (f (H7 (.tuple #[x.tmps.getD t undef,x.tmps.getD u undef]))::rs) M w
 rw [this];exact h2
theorem TO.dG {ops:Array Oper} {l:List Oper} {Q:Exit→Act→World→Prop} (s j:Nat) {v:Value} {f:Value→A0} {p:Pr} {ps:List Pr} (hs:E.lookup s=some (BB v (DT (p::ps)))) (hi:rs[j]? =some (f (H7 v)))
  (k:∀a,TO P n ops l ((s,DT (BB a p::ps))::E) (Hp M0 w0 S (rs.set j (f a))) Q):TO P n ops l E (Hp M0 w0 S rs) Q:=by
 intro k0 hl a w hst
 have GL:rs.set j (f (H7 v))=rs:=by
  have hjl:j<rs.length:=by rcases Nat.lt_or_ge j rs.length with h|h;exact h;rw [List.getElem?_eq_none h] at hi;cases hi
  rw [List.getElem?_eq_getElem hjl] at hi
  simp only [Option.some.injEq] at hi
  rw [←hi,List.set_getElem_self]
 have hk:=k (H7 v)
 rw [GL] at hk
 refine hk k0 hl a w ?_
 obtain ⟨M,h1,h2,he,h4⟩:=hst
 refine ⟨M,h1,h2,fun s' q hq=> ?_,h4⟩
 simp only [List.lookup] at hq
 split at hq
 ·
  rename_i e1
  have:s'=s:=by simpa using e1
  subst this
  simp only [Option.some.injEq] at hq
  subst hq
  obtain ⟨h5,cs,h6,h7⟩:=he _ _ hs
  match cs,h7 with
  |c::cs,h7=>
   refine ⟨c::cs,h6,⟨?_,h7.1⟩,h7.2⟩
   rw [←h5,h6];rfl
 · exact he _ _ hq
theorem Fin.Zd {Q:Exit→Act→World→Prop} {x:Exit} {b cap sz:Nat} {e:TypeId} {rows:List (List Pr)} {sp:List Value} (j:Nat) (hj:rs[j]? =some (AD true b e (rows.flatten++sp.map is))) (hc:rows.length≤cap) (hm:cap≤maxLen) (hq:sp.length=(cap-rows.length)*sz)
  (k:Fin n E (Hp M0 w0 S (rs.set j (DZ e sz rows (.slice (some ⟨b,0,none⟩) rows.length cap)))) Q x):Fin n E (Hp M0 w0 S rs) Q x:=
 Fin.conv (fun a w hs=>by
  obtain ⟨M,h1,h2,h3,h4⟩:=hs
  have h4:A1 M0 w0 S rs M w:=h4
  exact ⟨M,h1,h2,h3,h4.CZ hj rfl rfl ⟨b,cap,sp,rfl,hc,hm,hq,(h4.hold _ (List.mem_of_getElem? hj)).1⟩⟩) k
theorem E9 {β:Type} {f:β→List Pr} {l:List β} {qs:List Pr} (hf:∀x,(f x).length=1) {i:Int} {x:β} {p:Pr} (h:l[i.toNat]? =some x) (hp:f x=[p]):((l.map f).flatten++qs)[0+i.toNat*1]? =some p:=by
 have hl:∀r∈l.map f,r.length=1:=A8 hf
 have hi:i.toNat<l.length:=by rcases Nat.lt_or_ge i.toNat l.length with h'|h';exact h';rw [List.getElem?_eq_none h'] at h;cases h
 have hfl:=Bt hl
 rw [List.length_map] at hfl
 rw [Nat.zero_add,List.getElem?_append_left (by rw [hfl];omega),show i.toNat*1=i.toNat*1+0 by omega,GS hl (by rw [List.getElem?_map,h];rfl) (by omega),hp];rfl
theorem Fin.ah {Q:Exit→Act→World→Prop} {x:Exit} (s j:Nat) {v:Value} {f:Value→A0} (g:Nat→A0) (hs:E.lookup s=some (BB v (Cp.ex fun b=>ptr b 0))) (hi:rs[j]? =some (f v)) (hf:∀b,f (.pointer (some ⟨b,0,none⟩))=g b)
  (k:∀b,Fin n ((s,ptr b 0)::E) (Hp M0 w0 S (rs.set j (g b))) Q x):Fin n E (Hp M0 w0 S rs) Q x:=by
 intro a w hst
 obtain ⟨M,h1,h2,he,h4⟩:=hst
 obtain ⟨h5,b,h6⟩:=he s _ hs
 have hv:v= .pointer (some ⟨b,0,none⟩):=by rw [←h5];exact h6
 have hj:rs.set j (g b)=rs:=by
  have hjl:j<rs.length:=by rcases Nat.lt_or_ge j rs.length with h|h;exact h;rw [List.getElem?_eq_none h] at hi;cases hi
  rw [←hf b,←hv]
  rw [List.getElem?_eq_getElem hjl] at hi
  simp at hi
  rw [←hi,List.set_getElem_self]
 refine k b a w ⟨M,h1,h2,?_,by rw [hj];exact h4⟩
 intro t q hq
 simp only [List.lookup] at hq
 by_cases ht:t=s
 · subst ht;simp at hq;subst hq;exact h6
 · rw [show (t==s)=false by simpa using ht] at hq;exact he t q hq
theorem IY {β:Type} {f:β→List Pr} {sz:Nat} (hf:∀x,(f x).length=sz) {z:List Pr} (hz:z.length=sz) {l:List β} {qs:List Pr} {i m:Nat} (hm:m=l.length-((i:Nat):Int).toNat) (h:i≤l.length):
  ((l.map f).flatten++qs).take (((i:Nat):Int).toNat*sz)++(List.replicate m z).flatten++((l.map f).flatten++qs).drop (((i:Nat):Int).toNat*sz+m*sz)=((l.take i).map f).flatten++(List.replicate (l.length-i) z).flatten++qs:=by
 rw [Int.toNat_natCast] at hm ⊢;subst hm
 have Zc:∀r∈(l.take i).map f,r.length=sz:=A8 hf
 have e1:i*sz+(l.length-i)*sz=((l.map f).flatten).length:=by rw [Bt (A8 hf),List.length_map,←Nat.add_mul];congr 1;omega
 have e2:(l.map f).flatten=((l.take i).map f).flatten++((l.drop i).map f).flatten:=by rw [←List.flatten_append,←List.map_append,List.take_append_drop]
 have e3:(((l.take i).map f).flatten).length=i*sz:=by rw [Bt Zc,List.length_map,List.length_take];congr 1;omega
 rw [e1,List.drop_left]
 congr 2
 rw [e2,List.append_assoc,←e3,List.take_left]
end
section
variable {P:Program} {L:Lg P} {n:Fm} {fz:Nat} {E:Env} {M0:Av} {w0:World} {S:Nat→Prop} {rs:List A0} {o:Oper}
def Bc (e:TypeId) (sz:Nat) (rows:List (List Pr)) (v:Value):A0 where
 D8:=match v with| .slice (some a) _ _=>some a.block|_=>none
 new:=true
 h M w:=(rows=[]∧v= .slice none 0 0)∨(DZ e sz rows v).h M w
 st M w M' w' he hk h:=h.imp id fun h=>(DZ e sz rows v).st M w M' w' he hk h
theorem Tr.K4 {Q:Exit→Act→World→Prop} {c:Code} (e:TypeId) (sz:Nat) (k:Tr L n E (Hp M0 w0 S (Bc e sz [] (.slice none 0 0)::rs)) c Q):Tr L n E (Hp M0 w0 S rs) c Q:=
 Tr.conv (fun _ _ ⟨M,h1,h2,h3,h4⟩=>⟨M,h1,h2,h3,A1.L8 h4 (r:=Bc e sz [] (.slice none 0 0)) rfl (Or.inl ⟨rfl,rfl⟩)⟩) k
theorem RO {M:Av} {w:World} {t ty e:TypeId} {sz bytes:Nat} {zs:List Value} {rows Af:List (List Pr)} {v u:Value} {j:Nat} (ht:P.underlying t=some (.slice e)) (hz:BJ P e=some sz) (hby:CH P e=some bytes) (DU:Br P e=some zs) (hzl:zs.length=sz) (hone:zs.all (·.oneCell')=true) (hsz:0<sz)
  (h:A1 M0 w0 S rs M w) (hj:rs[j]? =some (Bc e sz rows v)) (hl:∀r∈rows,r.length=sz) (hu:(slice sz Af).h M w u) (hpos:0<Af.length) (Dw:rows.length+Af.length≤maxLen) (hfit:(rows.length+Af.length)*bytes≤140737488355328):
  ∃v' w' M',(Builtin.append_ #[t,t] ty #[v,u]).run P w= .ok v' w'∧(lens (rows.length+Af.length)).h M' w' v'∧Ext M w M' w'∧A1 M0 w0 S (rs.set j (Bc e sz (rows++Af) v')) M' w':=by
 have hjl:j<rs.length:=by rcases Nat.lt_or_ge j rs.length with h|h;exact h;rw [List.getElem?_eq_none h] at hj;cases hj
 rcases (h.hold _ (List.mem_of_getElem? hj)).1 with ⟨rfl,rfl⟩|UB
 ·
  have h1:=h.CZ (r':=Bz) hj rfl rfl trivial
  have TT:(rs.set j Bz)[j]? =some Bz:=List.getElem?_set_self hjl
  obtain ⟨v',w',M',hrun,h2,h3,h4⟩:=W_ (ty:=ty) ht hz hby DU hzl hone hsz h1 TT hu hpos (by simpa using Dw) (by simpa using hfit)
  rw [List.set_set] at h4
  have h5:=h4.CZ (r':=Bc e sz ([]++Af) v') (List.getElem?_set_self hjl) rfl rfl (.inr (h4.hold _ (List.mem_of_getElem? (List.getElem?_set_self hjl))).1)
  rw [List.set_set] at h5
  exact ⟨v',w',M',hrun,by simpa using h2,h3,h5⟩
 ·
  obtain ⟨b,cap,spare,rfl,hnc,hcm,hsp,SL⟩:=UB
  have hC:=h.CZ (r':=AD true b e (rows.flatten++spare.map is)) hj rfl rfl SL
  have ga:(rs.set j (AD true b e (rows.flatten++spare.map is)))[j]? =some (AD true b e (rows.flatten++spare.map is)):=List.getElem?_set_self hjl
  obtain ⟨⟨hMb,cs,Yk,hcs,UC⟩,WM⟩:=hC.hold _ (List.mem_of_getElem? ga)
  have hfl:=Bt hl
  have bz:=hcs.length
  rw [List.length_append,hfl,List.length_map,hsp,←Nat.add_mul,show rows.length+(cap-rows.length)=cap by omega] at bz
  unfold BJ at hz
  unfold CH at hby
  unfold Br at DU
  cases hi:P.info? e with
  |none=>rw [hi] at hz;cases hz
  |some i=>
   rw [hi] at hz hby DU
   simp only [Option.map_some,Option.some.injEq,Option.map_eq_some_iff] at hz hby DU
   obtain ⟨z,Px,DU⟩:=DU
   have WN:z.cells.size=sz:=by rw [←hzl,←DU];simp
   obtain ⟨A',c',rfl,ZB,P5,Wi,E2⟩:=hu
   have L6:(slice sz Af).h M w (.slice A' Af.length c'):=⟨A',c',rfl,ZB,P5,Wi,E2⟩
   obtain ⟨MJ,rfl⟩:∃MJ,A'=some MJ:=by
    obtain ⟨_,b,hb,_⟩:=E2 0 _ (List.getElem?_eq_getElem hpos)
    exact ⟨b,hb⟩
   obtain ⟨news,MT,hcell⟩:=EB hsz L6
   have dH:=MT.1
   have hnews:=MT.hl hsz
   have hT:HL M w rows.flatten (cs.take (rows.length*sz)):=by
    have:=hcs.take (rows.length*sz)
    rwa [←hfl,List.take_left,hfl] at this
   have hne:(.slice (some ⟨b,0,none⟩) (rows++Af).length cap:Value)= .slice (some ⟨b,0,none⟩) (rows.length+Af.length) cap:=by rw [List.length_append]
   by_cases hroom:rows.length+Af.length≤cap
   ·
    have hle:(rows.length+Af.length)*sz≤cap*sz:=Nat.mul_le_mul_right sz hroom
    rw [Nat.add_mul] at hle
    have hrun:=run_append_room (P:=P) (w:=w) t ty e i ht hi b rows.length cap cs.toArray Yk MJ Af.length c' news (by rw [hz];exact dH) (fun k u hk=>(hcell k u hk).1) MT.2.1 hroom (by rw [hz,dH];simp;omega)
    rw [hz,dH] at hrun
    have hD:HL M w ((spare.drop (Af.length*sz)).map is) (cs.drop (rows.length*sz+Af.length*sz)):=by
     have:=hcs.drop (rows.length*sz+Af.length*sz)
     have e1:(rows.flatten++spare.map is).drop (rows.length*sz+Af.length*sz)=(spare.drop (Af.length*sz)).map is:=by rw [←hfl,←List.drop_drop,List.drop_left,List.map_drop]
     rwa [e1] at this
    obtain ⟨hW,hX⟩:=A1.write (qs:=rows.flatten++Af.flatten++(spare.drop (Af.length*sz)).map is) (cs:=cs.take (rows.length*sz)++news++cs.drop (rows.length*sz+Af.length*sz)) hC ga ((hT.app hnews).app hD) (fun c hc=>by
     simp only [List.mem_append] at hc
     rcases hc with (hc|hc)|hc
     · exact UC c (List.mem_of_mem_take hc)
     · exact MT.2.1 c hc
     · exact UC c (List.mem_of_mem_drop hc))
    rw [List.set_set] at hW
    refine ⟨_,_,M,hrun,⟨_,_,rfl⟩,hX,?_⟩
    have lT := hW.CZ (r' := Bc e sz (rows ++ Af) (.slice (some ⟨b, 0, none⟩) (rows.length + Af.length) cap)) (List.getElem?_set_self hjl) rfl rfl (.inr ⟨b, cap, spare.drop (Af.length * sz), hne.symm, by rw [List.length_append]; exact hroom, hcm, by
     rw [List.length_drop,hsp,List.length_append,←Nat.sub_mul];congr 1;omega,by
     rw [List.flatten_append];exact (hW.hold _ (List.mem_of_getElem? (List.getElem?_set_self hjl))).1⟩)
    rw [List.set_set] at lT
    exact lT
   ·
    have hg:cap<rows.length+Af.length:=by omega
    have holds:∀k u,(cs.take (rows.length*sz))[k]? =some u→w.cell? ((⟨b,0,none⟩:Addr).add k)=some u:=by
     intro k u hk
     have hk2:cs[k]? =some u:=by
      rw [List.getElem?_take] at hk
      split at hk
      · exact hk
      · cases hk
     rw [EU]
     simp [World.cell?,Yk,hk2]
    have hto:(cs.take (rows.length*sz)).length=rows.length*sz:=by rw [List.length_take,bz];exact Nat.min_eq_left (Nat.mul_le_mul_right sz hnc)
    have hrun:=run_append_grow (P:=P) (w:=w) t ty e i z ht hi Px ⟨b,0,none⟩ rows.length cap (cs.take (rows.length*sz)) (by rw [hz];exact hto) holds MJ Af.length c' news (by rw [hz];exact dH) (fun k u hk=>(hcell k u hk).1) hg (by unfold maxLen at Dw;omega) (by rw [hby];exact growslice_fits hg hfit)
    generalize hcap:grownCap w (rows.length+Af.length) cap e=cap' at hrun
    have hge:rows.length+Af.length≤cap':=by rw [←hcap];exact grownCap_ge _ _ _ _
    have hle:cap'≤maxLen:=by rw [←hcap];exact grownCap_le_maxLen _ _ _ _ Dw
    generalize L7:Builtin.zeroCells z.cells (cap'-(rows.length+Af.length))=zc at hrun
    have hzs:zc.size=(cap'-(rows.length+Af.length))*sz:=by rw [←L7,size_zeroCells,WN]
    have cq:∀c∈zc.toList,c.oneCell'=true:=by rw [←L7];exact EP DU hone
    generalize Ze:((cs.take (rows.length*sz)).toArray++news.toArray++zc)=arr at hrun
    have Fv:arr.toList=cs.take (rows.length*sz)++news++zc.toList:=by rw [←Ze];simp
    have hb:Below w.heap.size w (w.drew.alloc (.cells arr e)):=((Below.refl _ _).drew).alloc (Nat.le_refl _) _
    have h2:=Ext.below (M:=M) hb
    have FL:Ext M w (fun b o=>M b o∨b=w.heap.size) (w.drew.alloc (.cells arr e)):=by
     refine ⟨h2.size,fun a v hc hm=>⟨fun hx=> ?_,(h2.keep a v hc hm).2⟩,fun b o ho hp hm=>⟨fun hx=> ?_,(h2.obj b o ho hp hm).2⟩⟩
     ·
      rcases hx with hx|hx
      · exact hm hx
      · have:=Dq hc;omega
     ·
      rcases hx with hx|hx
      · exact hm hx
      · subst hx;simp at ho
    have hs1:(w.drew.alloc (.cells arr e)).heap.size=w.heap.size+1:=by simp
    refine ⟨_,_,fun b o=>M b o∨b=w.heap.size,hrun,⟨_,_,rfl⟩,FL,?_⟩
    refine h.replace hj FL hb.os hb.tape hb.output (fun k hk _=>hb.block k hk) rfl (fun b o hm _=> .inl hm) (fun b o hx=> ?_) ?_ rfl (fun b hbk=> ?_)
    ·
     rcases hx with hx|hx
     · have:=h.bd _ _ hx;omega
     · omega
    ·
     refine .inr ⟨w.heap.size,cap',zc.toList,by rw [List.length_append],by rw [List.length_append];exact hge,hle,by rw [List.length_append];simpa using hzs,fun o=> .inr rfl,arr.toList,?_,?_,?_⟩
     ·
      have hh:(w.drew.alloc (.cells arr e)).heap[w.heap.size]? =some (.cells arr e (0,0)):=heap_alloc_new w.drew _
      rw [hh]
     · rw [Fv,List.flatten_append];exact ((hT.st FL).app ((MT.st FL).hl hsz)).app (Kj _ _ _)
     ·
      intro c hc
      rw [Fv] at hc
      simp only [List.mem_append] at hc
      rcases hc with (hc|hc)|hc
      · exact UC c (List.mem_of_mem_take hc)
      · exact MT.2.1 c hc
      · exact cq c hc
    ·
     have D_:some w.heap.size=some b:=hbk
     injection D_ with e1
     subst e1
     exact ⟨by rw [hs1];omega,.inr (Nat.le_refl _)⟩
theorem F3 {t e:TypeId} {x y:Operand} {sz bytes d:Nat} {zs:List Value} {rows Af:List (List Pr)} {v:Value} {p:Pr} {j:Nat} (hg:o.guard=none) (hd:o.dst=some d) (hn:d<n) (ho:o.op= .call { callee:= .builtin .append,args:= #[x,y],argTypes:= #[t,t] })
  (ht:P.underlying t=some (.slice e)) (hz:BJ P e=some sz) (hby:CH P e=some bytes) (DU:Br P e=some zs) (hzl:zs.length=sz) (hone:zs.all (·.oneCell')=true) (hsz:0<sz)
  (hx:VL E x (BB v p)) (hy:VL E y (slice sz Af)) (hl:∀r∈rows,r.length=sz) (hpos:0<Af.length) (Dw:rows.length+Af.length≤maxLen) (hfit:(rows.length+Af.length)*bytes≤140737488355328):Du P M0 w0 S n j (SR.c (Bc e sz rows v)) ⟨d,Bc e sz (rows++Af)⟩ o E (lens (rows.length+Af.length)):=by
 refine ⟨hg,fun M w a rs L9 he hI hj=> ?_⟩
 have h1:a.eval x=v:=(hx.ev he (by simp [ho,Op.operands,Call.operands])).1
 have h2:=hy.ev he (by simp [ho,Op.operands,Call.operands])
 obtain ⟨v',w',M',hrun,h3,h4,h5⟩:=RO (ty:=o.type) ht hz hby DU hzl hone hsz hI hj hl h2 hpos Dw hfit
 have DO:(execOp a.eval o).run P w= .ok (.value v') w':=by simp [execOp,ho,resolve,invoke,builtin,h1,hrun]
 rw [DO]
 refine ⟨M',h3,h4,?_⟩
 have:(SR.at_ (a.put o.dst v') ⟨d,Bc e sz (rows++Af)⟩)=Bc e sz (rows++Af) v':=by unfold SR.at_ Slot.val;dsimp only;rw [hd,Bf (by rw [L9];exact hn)]
 rw [this];exact h5
theorem A1.dI {M:Av} {w:World} {sz:Nat} {e:TypeId} {rows:List (List Pr)} {v:Value} {j:Nat} (h:A1 M0 w0 S rs M w) (hj:rs[j]? =some (Bc e sz rows v)) (hl:∀r∈rows,r.length=sz):
  ∃M',Ext M w M' w∧A1 M0 w0 S (rs.set j (BX e sz v)) M' w∧(slice sz rows).h M' w v:=by
 have hjl:j<rs.length:=by rcases Nat.lt_or_ge j rs.length with h|h;exact h;rw [List.getElem?_eq_none h] at hj;cases hj
 rcases (h.hold _ (List.mem_of_getElem? hj)).1 with ⟨rfl,rfl⟩|UB
 · exact ⟨M,Ext.refl _ _,h.CZ hj rfl rfl (by intro a n c hv;cases hv),AZ sz M w _ rfl⟩
 ·
  obtain ⟨b,cap,spare,rfl,hnc,hcm,hsp,SL⟩:=UB
  have hC:=h.CZ (r':=AD true b e (rows.flatten++spare.map is)) hj rfl rfl SL
  obtain ⟨M',h1,h2,h3⟩:=A1.cr hC (List.getElem?_set_self hjl) hl hnc hcm (by rw [List.length_map];exact hsp)
  rw [List.set_set] at h2
  exact ⟨M',h1,h2,h3⟩
end
section
variable {P:Program} {L:Lg P} {n:Fm} {fz:Nat} {E:Env} {M0:Av} {w0:World} {S:Nat→Prop} {rs:List A0} {o:Oper} {ops:Array Oper} {r:List Oper}
def K5 (P:Program) (f:FuncId) (args:List Pr) (res:Pr) (r:A0) (r':A0) (r2:A0):Prop:=Entry P f∧∀M0 w0 S rs M w vs,A1 M0 w0 S (r::r2::rs) M w→HL M w args vs→
 Calls P f vs.toArray w fun e w'=>∃v M',e= .returned v∧res.h M' w' v∧Ext M w M' w'∧A1 M0 w0 S (r'::r2::rs) M' w'
theorem K5.of {f : FuncId} {g : Func} {c : Code} {ps : List Pr} {res : Pr} {R R' R2 : A0} (hf : P.funcs[f]? = some g) (hb : g.body = some c) (hname : (g.name == "runtime.NumGoroutine") = false) (hlen : ps.length ≤ g.ntmps)
  (h:∀M0 w0 S rs M1 w1,Tr (Y2 P) g.ntmps (J5 0 ps) (Hp M0 w0 S (R::Ai M1 w1::R2::rs)) c (bodyPost P g (Jm M0 w0 S (R2::rs) M1 w1 res (fun _=>R')))):K5 P f ps res R R' R2:=by
 refine ⟨⟨g,hf,hname,by rw [hb];rfl⟩,fun M0 w0 S rs M w vs hI hv=> ?_⟩
 refine calls_of_wp hf hb (h M0 w0 S rs M w _ _ ⟨M,?_,rfl,HF hv,?_⟩)
 ·
  have:=hv.length
  simp [this];omega
 · exact A1.perm (List.Perm.swap _ _ _) (A1.L8 hI (r:=Ai M w) rfl (Ext.refl _ _))
theorem TO.Jp {Q:Exit→Act→World→Prop} {f:FuncId} {xs:Array Operand} {ts:Array TypeId} {ps:List Pr} {res:Pr} (j i:Nat) {d:Nat} {R0 R1 R2:A0} (hj:rs[j]? =some R0) (hi:rs[i]? =some R2) (hij:i≠j) (hg:o.guard=none) (hd:o.dst=some d) (hn:d<n) (ho:o.op= .call { callee:= .value (.func f),args:=xs,argTypes:=ts }) (hf:K5 P f ps res R0 R1 R2)
  (hv:FK E xs.toList ps) (k:TO P n ops r ((d,res)::E) (Hp M0 w0 S (rs.set j R1)) Q):TO P n ops (o::r) E (Hp M0 w0 S rs) Q:=
 TO.Pz hg fun K M w a hsz hdf he hI hK=>by
  have hI:A1 M0 w0 S rs M w:=hI
  have h1:=FK.Dr (o:=o) (Bq he) (xs:=xs.toList) (fun x hx=>by simp [ho,Op.operands,Call.operands];exact .inr (by simpa using hx)) hv
  have hjl:j<rs.length:=by rcases Nat.lt_or_ge j rs.length with h|h;exact h;rw [List.getElem?_eq_none h] at hj;cases hj
  obtain ⟨m,hm⟩:∃m,(rs.eraseIdx j)[m]? =some R2:=by
   by_cases hlt:i<j
   · exact ⟨i,by rw [List.getElem?_eraseIdx,if_pos hlt];exact hi⟩
   · exact ⟨i-1,by rw [List.getElem?_eraseIdx,if_neg (by omega),show i-1+1=i by omega];exact hi⟩
  have hp:rs.Perm (R0::R2::(rs.eraseIdx j).eraseIdx m):=(Dx hj).trans ((Dx hm).cons _)
  have KE:(R1::R2::(rs.eraseIdx j).eraseIdx m).Perm (rs.set j R1):=((Dx hm).symm.cons _).trans (Gx hjl)
  have mj:NM P M0 w0 S o a M w res j (SR.c R1) rs ((execOp a.eval o).run P w):=by
   have hrun:(execOp a.eval o).run P w= .ok (.enter f (xs.toList.map a.eval).toArray) w:=by
    simp [execOp,ho,resolve,Deferred.ofValue,Act.eval,invoke,Cu hf.1,ES xs]
   rw [hrun]
   refine (hf.2 M0 w0 S _ M w _ (A1.perm hp hI) h1).mono ?_
   rintro e w' ⟨v,M',rfl,h2,h3,h4⟩
   exact ⟨v,M',rfl,h2,h3,A1.perm KE h4⟩
  refine HG mj fun v w' M' hv hx KG=>hK _ _ _ _ k ⟨M',by rw [Bn];exact hsz,by rw [put_defers];exact hdf,?_,KG⟩
  intro s q hq
  simp only [List.lookup] at hq
  by_cases hs:s=d
  · subst hs;simp at hq;subst hq;rw [hd,Bf (by rw [hsz];exact hn)];exact hv
  · rw [show (s==d)=false by simpa using hs] at hq;rw [hd,Bm hs];exact q.st _ _ _ _ _ hx (he s q hq)
end
abbrev Da (k:IntKind):Pr:=Cp.ex fun i:Int=>is (.int k i)
theorem FZ (k:IntKind) (i:Int):Pr.le (is (.int k i)) (Da k):=fun _ _ _ h=>⟨i,h⟩
section
variable {P:Program} {L:Lg P} {I:CL} {o:Oper} {E:Env}
theorem Na {op:BinOp} {t u:TypeId} {x y:Operand} {k:IntKind} (hop:(op== .xor||op== .or)=true) (ho:o.op= .binOp op t x y u) (hx:VL E x (Da k)) (hy:VL E y (Da k)):Ab P I o E (Da k):=
 Ab.same fun M w a he _=>by
  obtain ⟨m,h1⟩:=hx.ev he (by simp [ho,Op.operands])
  obtain ⟨n,h2⟩:=hy.ev he (by simp [ho,Op.operands])
  have h1:a.eval x= .int k m:=h1
  have h2:a.eval y= .int k n:=h2
  cases op<;>simp at hop<;>exact ⟨_,by simp [execOp,ho,h1,h2,eqGuard,binOp,Op.intBits];rfl,_,rfl⟩
theorem QE {op:BinOp} {t u:TypeId} {x y:Operand} {k k':IntKind} {c:Int} (hop:(op== .shl||op== .shr)=true) (ho:o.op= .binOp op t x y u) (hx:VL E x (Da k)) (hy:VL E y (is (.int k' c))) (hc:0≤c):Ab P I o E (Da k):=
 Ab.same fun M w a he _=>by
  obtain ⟨m,h1⟩:=hx.ev he (by simp [ho,Op.operands])
  have h1:a.eval x= .int k m:=h1
  have h2:a.eval y= .int k' c:=hy.ev he (by simp [ho,Op.operands])
  have hn:¬c<0:=by omega
  cases op<;>simp at hop<;>exact ⟨_,by simp [execOp,ho,h1,h2,eqGuard,binOp,Op.shift,hn];rfl,_,rfl⟩
theorem RP {t u:TypeId} {x y:Operand} {k:IntKind} (ho:o.op= .binOp .add t x y u) (hx:VL E x (Da k)) (hy:VL E y (Da k)):Ab P I o E (Da k):=
 Ab.same fun M w a he _=>by
  obtain ⟨m,h1⟩:=hx.ev he (by simp [ho,Op.operands])
  obtain ⟨n,h2⟩:=hy.ev he (by simp [ho,Op.operands])
  have h1:a.eval x= .int k m:=h1
  have h2:a.eval y= .int k n:=h2
  exact ⟨_,by simp [execOp,ho,h1,h2,eqGuard,binOp,Op.intArith];rfl,_,rfl⟩
theorem OZ {t u:TypeId} {x y:Operand} {m:Int} (ho:o.op= .binOp .and t x y u) (hx:VL E x (Da .u64)) (hy:VL E y (is (.int .u64 m))) (h0:0≤m) (gZ:m<18446744073709551616):Ab P I o E (Cp.ex fun r:Int=>fact (0≤r∧r≤m) (is (.int .u64 r))):=
 Ab.same fun M w a he _=>by
  obtain ⟨n,h1⟩:=hx.ev he (by simp [ho,Op.operands])
  have h1:a.eval x= .int .u64 n:=h1
  have h2:a.eval y= .int .u64 m:=hy.ev he (by simp [ho,Op.operands])
  have hm:(BitVec.ofInt 64 m).toNat=m.toNat:=by
   rw [BitVec.toNat_ofInt];omega
  have hle:(BitVec.ofInt 64 n&&&BitVec.ofInt 64 m).toNat≤m.toNat:=by
   rw [BitVec.toNat_and,hm];exact Nat.and_le_right
  have hw:IntKind.u64.wrap (((BitVec.ofInt 64 n&&&BitVec.ofInt 64 m).toNat:Nat):Int)=(((BitVec.ofInt 64 n&&&BitVec.ofInt 64 m).toNat:Nat):Int):=IntWalk.u64_in _ ⟨by omega,by omega⟩
  refine ⟨_,by simp [execOp,ho,h1,h2,eqGuard,binOp,Op.intBits];rfl,(((BitVec.ofInt 64 n&&&BitVec.ofInt 64 m).toNat:Nat):Int),⟨by omega,by omega⟩,?_⟩
  exact congrArg (Value.int .u64) hw
theorem XD {t u:TypeId} {x y:Operand} {k:Int} {b:Int} (ho:o.op= .binOp .shl t x y u) (hx:VL E x (is (.int .u64 1))) (hy:VL E y (is (.int .i64 k))) (h0:0≤k) (h8:k≤8) (hb:2 ^ k.toNat≤b):Ab P I o E (Cp.ex fun r:Int=>fact (1≤r∧r≤b) (is (.int .u64 r))):=
 Ab.same fun M w a he _=>by
  have h1:a.eval x= .int .u64 1:=hx.ev he (by simp [ho,Op.operands])
  have h2:a.eval y= .int .i64 k:=hy.ev he (by simp [ho,Op.operands])
  have hn:¬k<0:=by omega
  have hmin:min k.toNat 64=k.toNat:=by omega
  have e:((2 ^ k.toNat:Nat):Int)=(2:Int) ^ k.toNat:=Int.natCast_pow 2 k.toNat
  have mm:1≤2 ^ k.toNat:=Nat.one_le_two_pow
  have mo:2 ^ k.toNat≤256:=Nat.le_trans (Nat.pow_le_pow_right (n:=2) (by omega) (show k.toNat≤8 by omega)) (by decide)
  have Fo:(1:Int)≤2 ^ k.toNat:=by rw [←e];omega
  have Jq:(2:Int) ^ k.toNat≤256:=by rw [←e];omega
  have hw:IntKind.u64.wrap (2 ^ k.toNat)=2 ^ k.toNat:=IntWalk.u64_in _ ⟨by omega,by omega⟩
  refine ⟨.int .u64 (IntKind.u64.wrap (1*2 ^ (min k.toNat IntKind.u64.bits))),?_,2 ^ k.toNat,⟨Fo,hb⟩,?_⟩
  ·
   simp only [execOp,ho,h1,h2]
   simp [eqGuard,binOp,Op.shift,hn]
   try rw [show min k.toNat IntKind.u64.bits=k.toNat from hmin]
  ·
   show Value.int _ _=Value.int _ _
   rw [show min k.toNat IntKind.u64.bits=k.toNat from hmin,Int.one_mul,hw]
end
theorem Fin.Ef {P:Program} {fz:Nat} {E:Env} {M0:Av} {w0:World} {S:Nat→Prop} {rs:List A0} {g:Func} {M1:Av} {w1:World} {r:A0} (hr:g.results= #[]):Fin ⟨fz,[]⟩ E (Hp M0 w0 S (r::Ai M1 w1::rs)) (bodyPost P g (Jm M0 w0 S rs M1 w1 CC (fun _=>r))) .ret:=by
 rintro a w ⟨M,_,hd,he,hi⟩
 obtain ⟨h1,h2⟩:=SF hi
 exact ⟨hd,_,results0 hr,_,M,rfl,rfl,h1,h2⟩
theorem Aa {β:Type} {f:β→List Pr} {l:List β} {qs:List Pr} {sz:Nat} (hf:∀x,(f x).length=sz) {i:Int} (h:i.toNat<l.length):((((l.map f).flatten++qs).drop (0+i.toNat*sz)).take sz)=f (l[i.toNat]'h):=by
 rw [Nat.zero_add];exact OV hf (List.getElem?_eq_getElem h)
theorem AQ {β:Type} {f:β→List Pr} {sz:Nat} (hf:∀x,(f x).length=sz) {l:List β} {qs:List Pr} {i:Int} {x:β} (h:i.toNat<l.length):((l.map f).flatten++qs).take (0+i.toNat*sz)++f x++((l.map f).flatten++qs).drop (0+i.toNat*sz+sz)=((l.set i.toNat x).map f).flatten++qs:=by
 rw [Nat.zero_add];exact JI hf h
section
variable {P:Program} {L:Lg P} {n:Fm} {fz:Nat} {E:Env} {M0:Av} {w0:World} {S:Nat→Prop} {rs:List A0} {o:Oper} {β:Type} {b:Nat} {e:TypeId} {f:β→List Pr} {qs:List Pr} {Φ:List β→Prop}
def Bw (b:Nat) (e:TypeId) (f:β→List Pr) (Φ:List β→Prop) (qs:List Pr):A0 where
 D8:=some b
 new:=true
 h M w:=∃st:List β,Φ st∧(AD true b e ((st.map f).flatten++qs)).h M w
 st M w M' w' he hk h:=let ⟨st,h1,h2⟩:=h;⟨st,h1,(AD true b e ((st.map f).flatten++qs)).st M w M' w' he hk h2⟩
theorem St.B9 (j:Nat) (hj:rs[j]? =some (Bw b e f Φ qs)) {a:Act} {w:World} (h:St n E (Hp M0 w0 S rs) a w):
  ∃st:List β,Φ st∧St n E (Hp M0 w0 S (rs.set j (AD true b e ((st.map f).flatten++qs)))) a w:=by
 obtain ⟨M,h1,h2,h3,h4⟩:=h
 have h4:A1 M0 w0 S rs M w:=h4
 obtain ⟨st,hp,h8⟩:=(h4.hold _ (List.mem_of_getElem? hj)).1
 exact ⟨st,hp,M,h1,h2,h3,h4.CZ hj rfl rfl h8⟩
theorem Tr.B9 {Q:Exit→Act→World→Prop} {c:Code} (j:Nat) (hj:rs[j]? =some (Bw b e f Φ qs))
  (k:∀st:List β,Φ st→Tr L n E (Hp M0 w0 S (rs.set j (AD true b e ((st.map f).flatten++qs)))) c Q):Tr L n E (Hp M0 w0 S rs) c Q:=
 fun a w hs=>let ⟨st,h1,h2⟩:=hs.B9 j hj;k st h1 a w h2
theorem Fin.B9 {Q:Exit→Act→World→Prop} {x:Exit} (j:Nat) (hj:rs[j]? =some (Bw b e f Φ qs))
  (k:∀st:List β,Φ st→Fin n E (Hp M0 w0 S (rs.set j (AD true b e ((st.map f).flatten++qs)))) Q x):Fin n E (Hp M0 w0 S rs) Q x:=
 fun a w hs=>let ⟨st,h1,h2⟩:=hs.B9 j hj;k st h1 a w h2
theorem TO.B9 {Q:Exit→Act→World→Prop} {ops:Array Oper} {r:List Oper} (j:Nat) (hj:rs[j]? =some (Bw b e f Φ qs))
  (k:∀st:List β,Φ st→TO P n ops r E (Hp M0 w0 S (rs.set j (AD true b e ((st.map f).flatten++qs)))) Q):TO P n ops r E (Hp M0 w0 S rs) Q:=
 fun m hl a w hs=>let ⟨st,h1,h2⟩:=hs.B9 j hj;k st h1 m hl a w h2
theorem St.Bl {st:List β} (j:Nat) (hj:rs[j]? =some (AD true b e ((st.map f).flatten++qs))) (hp:Φ st) {a:Act} {w:World} (h:St n E (Hp M0 w0 S rs) a w):St n E (Hp M0 w0 S (rs.set j (Bw b e f Φ qs))) a w:=by
 obtain ⟨M,h1,h2,h3,h4⟩:=h
 have h4:A1 M0 w0 S rs M w:=h4
 exact ⟨M,h1,h2,h3,h4.CZ hj rfl rfl ⟨st,hp,(h4.hold _ (List.mem_of_getElem? hj)).1⟩⟩
theorem Tr.Bl {Q:Exit→Act→World→Prop} {c:Code} {st:List β} (Φ:List β→Prop) (j:Nat) (hj:rs[j]? =some (AD true b e ((st.map f).flatten++qs))) (hp:Φ st)
  (k:Tr L n E (Hp M0 w0 S (rs.set j (Bw b e f Φ qs))) c Q):Tr L n E (Hp M0 w0 S rs) c Q:=Tr.conv (fun _ _ hs=>hs.Bl j hj hp) k
theorem Fin.Bl {Q:Exit→Act→World→Prop} {x:Exit} {st:List β} (Φ:List β→Prop) (j:Nat) (hj:rs[j]? =some (AD true b e ((st.map f).flatten++qs))) (hp:Φ st)
  (k:Fin n E (Hp M0 w0 S (rs.set j (Bw b e f Φ qs))) Q x):Fin n E (Hp M0 w0 S rs) Q x:=Fin.conv (fun _ _ hs=>hs.Bl j hj hp) k
instance (priority:=300) dJ (b:Bool) (p:Prop) [h:EC b false p]:EC (!b) true p:=⟨fun e=>h.FW (by simpa using e)⟩
instance (priority:=300) dK (b:Bool) (p:Prop) [h:EC b true p]:EC (!b) false p:=⟨fun e=>h.FW (by simpa using e)⟩
end
end Cp
namespace Cp
open Go.Sort
section
variable {β:Type} [Inhabited β] {c:β×β→Int} {st:List β} {a b i j:Int}
def Bp (c:β×β→Int) (x y:β):Bool:=decide (c (x,y)<0)
theorem gx (h:i.toNat<st.length):st.toArray[i.toNat]! =st[i.toNat]:=by simp [h]
theorem sw (hi:i.toNat<st.length) (hj:j.toNat<st.length):((st.set i.toNat (st[j.toNat]'hj)).set j.toNat (st[i.toNat]'hi)).toArray=swp st.toArray i.toNat j.toNat:=by
 unfold swp
 rw [gx hi,gx hj]
 simp [Array.setIfInBounds_def,hi,hj]
omit [Inhabited β] in
theorem Fp {x y:β} (h:c (x,y)<0):Bp c x y=true:=decide_eq_true h
omit [Inhabited β] in
theorem Gk {x y:β} (h:¬c (x,y)<0):Bp c x y=false:=decide_eq_false h
theorem UD (h0:0≤a) (ha:a<j) {k:Int} (hk:k=j-1) (hj:j.toNat<st.length) (hj':k.toNat<st.length) (hc:c (st[j.toNat]'hj,st[k.toNat]'hj')<0):
  insInner (Bp c) a.toNat k.toNat ((st.set j.toNat (st[k.toNat]'hj')).set k.toNat (st[j.toNat]'hj)).toArray=insInner (Bp c) a.toNat j.toNat st.toArray:=by
 rw [sw hj hj']
 obtain ⟨m,hm⟩:∃m,j.toNat=m+1:=⟨j.toNat-1,by omega⟩
 have hk2:k.toNat=m:=by omega
 have e:Bp c (st.toArray[m+1]!) (st.toArray[m]!)=true:=by rw [←hm,←hk2,gx hj,gx hj'];exact Fp hc
 rw [hm,hk2]
 conv=>rhs;rw [insInner]
 rw [if_pos (by rw [e];simp;omega)]
theorem MU (h0:0≤a) (h:¬a<j):st.toArray=insInner (Bp c) a.toNat j.toNat st.toArray:=by
 cases hm:j.toNat with
 |zero=>rfl
 |succ m=>rw [insInner,if_neg (by simp;omega)]
theorem MV (h0:0≤a) (ha:a<j) {k:Int} (hk:k=j-1) (hj:j.toNat<st.length) (hj':k.toNat<st.length) (hc:¬c (st[j.toNat]'hj,st[k.toNat]'hj')<0):st.toArray=insInner (Bp c) a.toNat j.toNat st.toArray:=by
 obtain ⟨m,hm⟩:∃m,j.toNat=m+1:=⟨j.toNat-1,by omega⟩
 have hk2:k.toNat=m:=by omega
 have e:Bp c (st.toArray[m+1]!) (st.toArray[m]!)=false:=by rw [←hm,←hk2,gx hj,gx hj'];exact Gk hc
 rw [hm,insInner,if_neg (by rw [e];simp)]
theorem KL {d:Array β} (h0:0≤i) (h:i<b):insOuter (Bp c) a.toNat b.toNat (i+1).toNat (insInner (Bp c) a.toNat i.toNat d)=insOuter (Bp c) a.toNat b.toNat i.toNat d:=by
 conv=>rhs;rw [insOuter]
 rw [if_pos (by omega),show (i+1).toNat=i.toNat+1 by omega]
theorem MW {d:Array β} (h0:0≤i) (h:¬i<b):insOuter (Bp c) a.toNat b.toNat i.toNat d=d:=by
 rw [insOuter,if_neg (by omega)]
theorem K6 {d:Array β} (h0:0≤a):insOuter (Bp c) a.toNat b.toNat (a+1).toNat d=insertionSort (Bp c) d a.toNat b.toNat:=by
 unfold insertionSort;rw [show (a+1).toNat=a.toNat+1 by omega]
variable {hi F r:Int}
theorem Oa {d:Array β} (h0:0≤r) (h:hi≤2*r+1):d=siftDown (Bp c) hi.toNat F.toNat r.toNat d:=by
 rw [siftDown,dif_pos (by omega)]
theorem Jr {x y:Int} (h0:0≤r) (hF:0≤F) (h:¬hi≤2*r+1) (h2:¬2*r+1+1<hi) (hx:x=F+r) (hy:y=F+(2*r+1)) (hxl:x.toNat<st.length) (K7:y.toNat<st.length) (hc:¬c (st[x.toNat]'hxl,st[y.toNat]'K7)<0):
  st.toArray=siftDown (Bp c) hi.toNat F.toNat r.toNat st.toArray:=by
 have e:Bp c (st.toArray[F.toNat+r.toNat]!) (st.toArray[F.toNat+(2*r.toNat+1)]!)=false:=by
  rw [show F.toNat+r.toNat=x.toNat by omega,show F.toNat+(2*r.toNat+1)=y.toNat by omega,gx hxl,gx K7];exact Gk hc
 rw [siftDown,dif_neg (by omega),if_neg (by simp;omega),if_pos (by rw [e];rfl)]
theorem MX {x y:Int} (h0:0≤r) (hF:0≤F) (h:¬hi≤2*r+1) (h2:¬2*r+1+1<hi) (hx:x=F+r) (hy:y=F+(2*r+1)) (hxl:x.toNat<st.length) (K7:y.toNat<st.length) (hc:c (st[x.toNat]'hxl,st[y.toNat]'K7)<0):
  siftDown (Bp c) hi.toNat F.toNat (2*r+1).toNat ((st.set x.toNat (st[y.toNat]'K7)).set y.toNat (st[x.toNat]'hxl)).toArray=siftDown (Bp c) hi.toNat F.toNat r.toNat st.toArray:=by
 have e:Bp c (st.toArray[F.toNat+r.toNat]!) (st.toArray[F.toNat+(2*r.toNat+1)]!)=true:=by
  rw [show F.toNat+r.toNat=x.toNat by omega,show F.toNat+(2*r.toNat+1)=y.toNat by omega,gx hxl,gx K7];exact Fp hc
 rw [sw hxl K7]
 conv=>rhs;rw [siftDown]
 rw [dif_neg (by omega),if_neg (by simp;omega),if_neg (by rw [e];simp)]
 rw [show (2*r+1).toNat=2*r.toNat+1 by omega,show F.toNat+r.toNat=x.toNat by omega,show F.toNat+(2*r.toNat+1)=y.toNat by omega]
theorem Js {x y u v:Int} (h0:0≤r) (hF:0≤F) (h:¬hi≤2*r+1) (hu:u=F+(2*r+1)) (hv:v=F+(2*r+1)+1) (RQ:u.toNat<st.length) (hvl:v.toNat<st.length) (h2:¬c (st[u.toNat]'RQ,st[v.toNat]'hvl)<0)
  (hx:x=F+r) (hy:y=F+(2*r+1)) (hxl:x.toNat<st.length) (K7:y.toNat<st.length) (hc:¬c (st[x.toNat]'hxl,st[y.toNat]'K7)<0):st.toArray=siftDown (Bp c) hi.toNat F.toNat r.toNat st.toArray:=by
 have e:Bp c (st.toArray[F.toNat+r.toNat]!) (st.toArray[F.toNat+(2*r.toNat+1)]!)=false:=by
  rw [show F.toNat+r.toNat=x.toNat by omega,show F.toNat+(2*r.toNat+1)=y.toNat by omega,gx hxl,gx K7];exact Gk hc
 have e2:Bp c (st.toArray[F.toNat+(2*r.toNat+1)]!) (st.toArray[F.toNat+(2*r.toNat+1)+1]!)=false:=by
  rw [show F.toNat+(2*r.toNat+1)+1=v.toNat by omega,show F.toNat+(2*r.toNat+1)=u.toNat by omega,gx RQ,gx hvl];exact Gk h2
 rw [siftDown,dif_neg (by omega),if_neg (by rw [e2];simp),if_pos (by rw [e];rfl)]
theorem MY {x y u v:Int} (h0:0≤r) (hF:0≤F) (h:¬hi≤2*r+1) (hu:u=F+(2*r+1)) (hv:v=F+(2*r+1)+1) (RQ:u.toNat<st.length) (hvl:v.toNat<st.length) (h2:¬c (st[u.toNat]'RQ,st[v.toNat]'hvl)<0)
  (hx:x=F+r) (hy:y=F+(2*r+1)) (hxl:x.toNat<st.length) (K7:y.toNat<st.length) (hc:c (st[x.toNat]'hxl,st[y.toNat]'K7)<0):
  siftDown (Bp c) hi.toNat F.toNat (2*r+1).toNat ((st.set x.toNat (st[y.toNat]'K7)).set y.toNat (st[x.toNat]'hxl)).toArray=siftDown (Bp c) hi.toNat F.toNat r.toNat st.toArray:=by
 have e:Bp c (st.toArray[F.toNat+r.toNat]!) (st.toArray[F.toNat+(2*r.toNat+1)]!)=true:=by
  rw [show F.toNat+r.toNat=x.toNat by omega,show F.toNat+(2*r.toNat+1)=y.toNat by omega,gx hxl,gx K7];exact Fp hc
 have e2:Bp c (st.toArray[F.toNat+(2*r.toNat+1)]!) (st.toArray[F.toNat+(2*r.toNat+1)+1]!)=false:=by
  rw [show F.toNat+(2*r.toNat+1)+1=v.toNat by omega,show F.toNat+(2*r.toNat+1)=u.toNat by omega,gx RQ,gx hvl];exact Gk h2
 rw [sw hxl K7]
 conv=>rhs;rw [siftDown]
 rw [dif_neg (by omega),if_neg (by rw [e2];simp),if_neg (by rw [e];simp)]
 rw [show (2*r+1).toNat=2*r.toNat+1 by omega,show F.toNat+r.toNat=x.toNat by omega,show F.toNat+(2*r.toNat+1)=y.toNat by omega]
theorem K8 {x y u v:Int} (h0:0≤r) (hF:0≤F) (h:2*r+1+1<hi) (hu:u=F+(2*r+1)) (hv:v=F+(2*r+1)+1) (RQ:u.toNat<st.length) (hvl:v.toNat<st.length) (h2:c (st[u.toNat]'RQ,st[v.toNat]'hvl)<0)
  (hx:x=F+r) (hy:y=F+(2*r+1+1)) (hxl:x.toNat<st.length) (K7:y.toNat<st.length) (hc:¬c (st[x.toNat]'hxl,st[y.toNat]'K7)<0):st.toArray=siftDown (Bp c) hi.toNat F.toNat r.toNat st.toArray:=by
 have e:Bp c (st.toArray[F.toNat+r.toNat]!) (st.toArray[F.toNat+(2*r.toNat+2)]!)=false:=by
  rw [show F.toNat+r.toNat=x.toNat by omega,show F.toNat+(2*r.toNat+2)=y.toNat by omega,gx hxl,gx K7];exact Gk hc
 have e2:Bp c (st.toArray[F.toNat+(2*r.toNat+1)]!) (st.toArray[F.toNat+(2*r.toNat+1)+1]!)=true:=by
  rw [show F.toNat+(2*r.toNat+1)+1=v.toNat by omega,show F.toNat+(2*r.toNat+1)=u.toNat by omega,gx RQ,gx hvl];exact Fp h2
 rw [siftDown,dif_neg (by omega),if_pos (by rw [e2];simp;omega),if_pos (by rw [e];rfl)]
theorem Ob {x y u v:Int} (h0:0≤r) (hF:0≤F) (h:2*r+1+1<hi) (hu:u=F+(2*r+1)) (hv:v=F+(2*r+1)+1) (RQ:u.toNat<st.length) (hvl:v.toNat<st.length) (h2:c (st[u.toNat]'RQ,st[v.toNat]'hvl)<0)
  (hx:x=F+r) (hy:y=F+(2*r+1+1)) (hxl:x.toNat<st.length) (K7:y.toNat<st.length) (hc:c (st[x.toNat]'hxl,st[y.toNat]'K7)<0):
  siftDown (Bp c) hi.toNat F.toNat (2*r+1+1).toNat ((st.set x.toNat (st[y.toNat]'K7)).set y.toNat (st[x.toNat]'hxl)).toArray=siftDown (Bp c) hi.toNat F.toNat r.toNat st.toArray:=by
 have e:Bp c (st.toArray[F.toNat+r.toNat]!) (st.toArray[F.toNat+(2*r.toNat+2)]!)=true:=by
  rw [show F.toNat+r.toNat=x.toNat by omega,show F.toNat+(2*r.toNat+2)=y.toNat by omega,gx hxl,gx K7];exact Fp hc
 have e2:Bp c (st.toArray[F.toNat+(2*r.toNat+1)]!) (st.toArray[F.toNat+(2*r.toNat+1)+1]!)=true:=by
  rw [show F.toNat+(2*r.toNat+1)+1=v.toNat by omega,show F.toNat+(2*r.toNat+1)=u.toNat by omega,gx RQ,gx hvl];exact Fp h2
 rw [sw hxl K7]
 conv=>rhs;rw [siftDown]
 rw [dif_neg (by omega),if_pos (by rw [e2];simp;omega),if_neg (by rw [e];simp),dif_pos (by omega)]
 rw [show (2*r+1+1).toNat=2*r.toNat+2 by omega,show F.toNat+r.toNat=x.toNat by omega,show F.toNat+(2*r.toNat+2)=y.toNat by omega]
theorem Oc {d:Array β} (h0:0≤i):heapBuild (Bp c) hi.toNat F.toNat (i-1+1).toNat (siftDown (Bp c) hi.toNat F.toNat i.toNat d)=heapBuild (Bp c) hi.toNat F.toNat (i+1).toNat d:=by
 rw [show (i+1).toNat=i.toNat+1 by omega,show (i-1+1).toNat=i.toNat by omega];rfl
theorem MZ {d:Array β} (h0:¬0≤i):heapBuild (Bp c) hi.toNat F.toNat (i+1).toNat d=d:=by
 rw [show (i+1).toNat=0 by omega];rfl
theorem UE {d:Array β} (h0:0≤i):heapPop (Bp c) F.toNat (i-1+1).toNat (siftDown (Bp c) i.toNat F.toNat (0:Int).toNat (swp d F.toNat (F.toNat+i.toNat)))=heapPop (Bp c) F.toNat (i+1).toNat d:=by
 rw [show (i+1).toNat=i.toNat+1 by omega,show (i-1+1).toNat=i.toNat by omega];rfl
theorem RR {d:Array β} (h0:¬0≤i):heapPop (Bp c) F.toNat (i+1).toNat d=d:=by
 rw [show (i+1).toNat=0 by omega];rfl
theorem Md (h0:0≤a) (hab:a≤b) (hb:b≤1000000):Go.IntKind.i64.wrap ((b-a-1).tdiv 2)=(((b.toNat-a.toNat-1)/2:Nat):Int):=by
 have:(b-a-1).tdiv 2=(((b.toNat-a.toNat-1)/2:Nat):Int):=by
  rcases Int.lt_or_le (b-a-1) 0 with h|h
  ·
   have e:b-a-1= -1:=by omega
   rw [e,show b.toNat-a.toNat-1=0 by omega];rfl
  · rw [Int.tdiv_eq_ediv_of_nonneg h];omega
 rw [this,Go.IntWalk.i64_in _ ⟨by omega,by omega⟩]
theorem heap_holds (hw:SWO (Bp c)) (d:Array β) (h0:0≤a) (hab:a≤b) (hb:b.toNat≤d.size):
  PermIn a.toNat b.toNat d (heapPop (Bp c) a.toNat (b-a).toNat (heapBuild (Bp c) (b-a).toNat a.toNat ((b.toNat-a.toNat-1)/2+1) d))∧SortedIn (Bp c) a.toNat b.toNat (heapPop (Bp c) a.toNat (b-a).toNat (heapBuild (Bp c) (b-a).toNat a.toNat ((b.toNat-a.toNat-1)/2+1) d)):=by
 have:=heapSort_holds hw d a.toNat b.toNat (by omega) hb
 unfold heapSort at this
 rw [show (b-a).toNat=b.toNat-a.toNat by omega]
 exact this
theorem RS {n:Int} (h0:0≤n) (h1:n≤1000000):0≤Go.IntKind.i64.wrap (n.tdiv 4)∧4*Go.IntKind.i64.wrap (n.tdiv 4)≤n∧n<4*Go.IntKind.i64.wrap (n.tdiv 4)+4:=by
 have:n.tdiv 4=n/4:=Int.tdiv_eq_ediv_of_nonneg h0
 rw [this,Go.IntWalk.i64_in _ ⟨by omega,by omega⟩]
 omega
theorem Me {p:β→Bool} (h0:0≤i) (hij:i≤j) (hl:i.toNat<st.length) (hp:p (st[i.toNat]'hl)=true):scanUp p st.toArray j.toNat (i+1).toNat=scanUp p st.toArray j.toNat i.toNat:=by
 conv=>rhs;rw [scanUp]
 rw [if_pos (by rw [gx hl,hp];simp;omega),show (i+1).toNat=i.toNat+1 by omega]
theorem F4 {p:β→Bool} {d:Array β} (hj:0≤j) (hij:¬i≤j):scanUp p d j.toNat i.toNat=i.toNat:=by
 rw [scanUp,if_neg (by simp;omega)]
theorem F5 {p:β→Bool} (hl:i.toNat<st.length) (hp:p (st[i.toNat]'hl)=false):scanUp p st.toArray j.toNat i.toNat=i.toNat:=by
 rw [scanUp,if_neg (by rw [gx hl,hp];simp)]
theorem Mf {p:β→Bool} (h0:1≤i) (hij:i≤j) (hl:j.toNat<st.length) (hp:p (st[j.toNat]'hl)=true):scanDown p st.toArray i.toNat (j-1).toNat=scanDown p st.toArray i.toNat j.toNat:=by
 obtain ⟨m,hm⟩:∃m,j.toNat=m+1:=⟨j.toNat-1,by omega⟩
 have KE:p (st.toArray[m+1]!)=true:=by rw [←hm,gx hl];exact hp
 rw [show (j-1).toNat=m by omega,hm]
 conv=>rhs;rw [scanDown]
 rw [if_pos (by rw [KE];simp;omega)]
theorem F6 {p:β→Bool} {d:Array β} (h0:0≤j) (hij:¬i≤j):scanDown p d i.toNat j.toNat=j.toNat:=by
 cases hm:j.toNat with
 |zero=>rfl
 |succ m=>rw [scanDown,if_neg (by simp;omega)]
theorem F7 {p:β→Bool} (hl:j.toNat<st.length) (hp:p (st[j.toNat]'hl)=false):scanDown p st.toArray i.toNat j.toNat=j.toNat:=by
 cases hm:j.toNat with
 |zero=>rfl
 |succ m=>
  have KE:p (st.toArray[m+1]!)=false:=by rw [←hm,gx hl];exact hp
  rw [scanDown,if_neg (by rw [KE];simp)]
abbrev pU (c:β×β→Int) (d:Array β) (a:Int):β→Bool:=fun x=>Bp c x d[a.toNat]!
abbrev pD (c:β×β→Int) (d:Array β) (a:Int):β→Bool:=fun x=> !Bp c x d[a.toNat]!
abbrev qU (c:β×β→Int) (d:Array β) (a:Int):β→Bool:=fun x=> !Bp c d[a.toNat]! x
abbrev qD (c:β×β→Int) (d:Array β) (a:Int):β→Bool:=fun x=>Bp c d[a.toNat]! x
theorem XE (hi:i.toNat<st.length) (ha:a.toNat<st.length) (h:c (st[i.toNat]'hi,st[a.toNat]'ha)<0):pU c st.toArray a (st[i.toNat]'hi)=true:=by show Bp c _ _=true;rw [gx ha];exact Fp h
theorem XF (hi:i.toNat<st.length) (ha:a.toNat<st.length) (h:¬c (st[i.toNat]'hi,st[a.toNat]'ha)<0):pU c st.toArray a (st[i.toNat]'hi)=false:=by show Bp c _ _=false;rw [gx ha];exact Gk h
theorem XG (hi:i.toNat<st.length) (ha:a.toNat<st.length) (h:¬c (st[i.toNat]'hi,st[a.toNat]'ha)<0):pD c st.toArray a (st[i.toNat]'hi)=true:=by show (!Bp c _ _)=true;rw [gx ha,Gk h];rfl
theorem XH (hi:i.toNat<st.length) (ha:a.toNat<st.length) (h:c (st[i.toNat]'hi,st[a.toNat]'ha)<0):pD c st.toArray a (st[i.toNat]'hi)=false:=by show (!Bp c _ _)=false;rw [gx ha,Fp h];rfl
theorem dL (hi:i.toNat<st.length) (ha:a.toNat<st.length) (h:¬c (st[a.toNat]'ha,st[i.toNat]'hi)<0):qU c st.toArray a (st[i.toNat]'hi)=true:=by show (!Bp c _ _)=true;rw [gx ha,Gk h];rfl
theorem dM (hi:i.toNat<st.length) (ha:a.toNat<st.length) (h:c (st[a.toNat]'ha,st[i.toNat]'hi)<0):qU c st.toArray a (st[i.toNat]'hi)=false:=by show (!Bp c _ _)=false;rw [gx ha,Fp h];rfl
theorem dN (hi:i.toNat<st.length) (ha:a.toNat<st.length) (h:c (st[a.toNat]'ha,st[i.toNat]'hi)<0):qD c st.toArray a (st[i.toNat]'hi)=true:=by show Bp c _ _=true;rw [gx ha];exact Fp h
theorem dO (hi:i.toNat<st.length) (ha:a.toNat<st.length) (h:¬c (st[a.toNat]'ha,st[i.toNat]'hi)<0):qD c st.toArray a (st[i.toNat]'hi)=false:=by show Bp c _ _=false;rw [gx ha];exact Gk h
abbrev WQ (c:β×β→Int) (a i j:Int) (d:Array β):Nat×Array β:=partLoop (Bp c) a.toNat i.toNat j.toNat d
abbrev Yl (c:β×β→Int) (a i j:Int) (d:Array β):Nat×Array β:=partEqLoop (Bp c) a.toNat i.toNat j.toNat d
theorem Df {i2 j2:Int} (h1:i2.toNat=scanUp (pU c st.toArray a) st.toArray j.toNat i.toNat) (h2:j2.toNat=scanDown (pD c st.toArray a) st.toArray i2.toNat j.toNat) (h0:0≤j2) (h:i2>j2):WQ c a i j st.toArray=(j2.toNat,st.toArray):=by
 have h:=partLoop_eq (Bp c) a.toNat i.toNat j.toNat st.toArray
 rw [←h1,←h2,if_pos (by omega)] at h
 exact h
theorem KM {i2 j2:Int} (h1:i2.toNat=scanUp (pU c st.toArray a) st.toArray j.toNat i.toNat) (h2:j2.toNat=scanDown (pD c st.toArray a) st.toArray i2.toNat j.toNat) (h0:0≤i2) (h:¬i2>j2) (hi:i2.toNat<st.length) (hj:j2.toNat<st.length):
  WQ c a (i2+1) (j2-1) ((st.set i2.toNat (st[j2.toNat]'hj)).set j2.toNat (st[i2.toNat]'hi)).toArray=WQ c a i j st.toArray:=by
 have h:=partLoop_eq (Bp c) a.toNat i.toNat j.toNat st.toArray
 rw [←h1,←h2,if_neg (by omega)] at h
 unfold WQ
 rw [h,sw hi hj,show (i2+1).toNat=i2.toNat+1 by omega,show (j2-1).toNat=j2.toNat-1 by omega]
theorem IZ {i2 j2:Int} (h1:i2.toNat=scanUp (qU c st.toArray a) st.toArray j.toNat i.toNat) (h2:j2.toNat=scanDown (qD c st.toArray a) st.toArray i2.toNat j.toNat) (h0:0≤j2) (h:i2>j2):Yl c a i j st.toArray=(i2.toNat,st.toArray):=by
 have h:=partEqLoop_eq (Bp c) a.toNat i.toNat j.toNat st.toArray
 rw [←h1,←h2,if_pos (by omega)] at h
 exact h
theorem UG {i2 j2:Int} (h1:i2.toNat=scanUp (qU c st.toArray a) st.toArray j.toNat i.toNat) (h2:j2.toNat=scanDown (qD c st.toArray a) st.toArray i2.toNat j.toNat) (h0:0≤i2) (h:¬i2>j2) (hi:i2.toNat<st.length) (hj:j2.toNat<st.length):
  Yl c a (i2+1) (j2-1) ((st.set i2.toNat (st[j2.toNat]'hj)).set j2.toNat (st[i2.toNat]'hi)).toArray=Yl c a i j st.toArray:=by
 have h:=partEqLoop_eq (Bp c) a.toNat i.toNat j.toNat st.toArray
 rw [←h1,←h2,if_neg (by omega)] at h
 unfold Yl
 rw [h,sw hi hj,show (i2+1).toNat=i2.toNat+1 by omega,show (j2-1).toNat=j2.toNat-1 by omega]
variable {lt:β→β→Bool} {a0 b0 m n:Nat} {l s s':Array β}
structure PS (lt:β→β→Bool) (a0 b0 a b:Nat) (l s:Array β):Prop where
 ha:a0≤a
 hab:a≤b
 hb:b≤b0
 hp:PermIn a0 b0 l s
 below:Below lt a b s
 out:∀i j,a0≤i→i<j→j<b0→(i<a∨b≤j)→lt s[j]! s[i]! =false
theorem PS.init (h:a0≤b0) (hB:Below lt a0 b0 l):PS lt a0 b0 a0 b0 l l:=⟨Nat.le_refl _,h,Nat.le_refl _,permIn_refl _ _ _,hB,fun _ _ h1 _ h3 h4=>by omega⟩
theorem PS.perm (h:PS lt a0 b0 m n l s) (hs:b0≤l.size) (hq:PermIn m n s s'):PS lt a0 b0 m n l s':=by
 have hsz:s.size=l.size:=h.hp.1
 have YX:n≤s.size:=by have:=h.hb;omega
 refine ⟨h.ha,h.hab,h.hb,permIn_trans _ _ _ _ _ h.hp (permIn_mono _ _ _ _ _ _ h.ha h.hb (by omega) hq),Below.permA permIn_all YX h.below hq,fun i j h1 h2 h3 h4=> ?_⟩
 have hm:=h.hab
 by_cases hi:m≤i∧i<n
 ·
  have hj:n≤j:=by omega
  rw [hq.2.1 j (.inr hj)]
  exact permIn_all s s' m n (fun x=>lt s[j]! x=false) YX hq (fun k hk1 hk2=>h.out k j (by have:=h.ha;omega) (by omega) h3 (.inr hj)) i hi.1 hi.2
 ·
  rw [hq.2.1 i (by omega)]
  by_cases hj:m≤j∧j<n
  · exact permIn_all s s' m n (fun x=>lt x s[i]! =false) YX hq (fun k hk1 hk2=>h.out i k h1 (by omega) (by have:=h.hb;omega) (.inl (by omega))) j hj.1 hj.2
  · rw [hq.2.1 j (by omega)];exact h.out i j h1 h2 h3 h4
theorem PS.done (h:PS lt a0 b0 m n l s) (hs:SortedIn lt m n s):PermIn a0 b0 l s∧SortedIn lt a0 b0 s:=by
 refine ⟨h.hp,fun i j h1 h2 h3=> ?_⟩
 by_cases hh:i<m∨n≤j
 · exact h.out i j h1 h2 h3 hh
 · exact hs i j (by omega) h2 (by omega)
theorem PS.eq (hw:SWO lt) (h:PS lt a0 b0 m n l s) (hs:b0≤l.size) {pv:β} {k:Nat} (hm:0<m) (D7:lt s[m-1]! pv=false) (hk:m<k) (hkn:k≤n) (hq:PermIn m n s s') (h1:∀i,m≤i→i<k→lt pv s'[i]! =false) (h2:∀i,k≤i→i<n→lt pv s'[i]! =true):
  PS lt a0 b0 k n l s':=by
 have h':=h.perm hs hq
 have hle:∀j,m≤j→j<n→lt s'[j]! pv=false:=by
  intro j TT hj2
  by_cases hjk:k≤j
  · exact hw.asym (h2 j hjk hj2)
  ·
   have hb:=h'.below
   rcases hb with hb|hb
   · omega
   ·
    have hb:=hb j TT hj2
    rw [hq.2.1 (m-1) (.inl (by omega))] at hb
    exact hw.ntrans _ _ _ hb D7
 have key:∀i j,m≤i→i<k→m≤j→j<n→lt s'[j]! s'[i]! =false:=fun i j ha hb hc hd=>hw.ntrans _ _ _ (hle j hc hd) (h1 i ha hb)
 refine ⟨by have:=h.ha;omega,hkn,h.hb,h'.hp,.inr fun i hi1 hi2=>key (k-1) i (by omega) (by omega) (by omega) hi2,fun i j g1 g2 g3 g4=> ?_⟩
 by_cases hh:i<m∨n≤j
 · exact h'.out i j g1 g2 g3 hh
 · exact key i j (by omega) (by omega) (by omega) (by omega)
structure K9 (lt:β→β→Bool) (m n k:Nat) (s:Array β):Prop where
 h1:m≤k
 h2:k<n
 lo:∀i,m≤i→i<k→lt s[i]! s[k]! =true
 up:∀i,k<i→i<n→lt s[i]! s[k]! =false
theorem PS.left (hw:SWO lt) {k:Nat} (h:PS lt a0 b0 m n l s) (hs:b0≤l.size) (hp:K9 lt m n k s) (hq:PermIn m k s s') (DQ:SortedIn lt m k s'):PS lt a0 b0 (k+1) n l s':=by
 obtain ⟨h1,h2,lo,up⟩:=hp
 have hsz:s.size=l.size:=h.hp.1
 have hks:k≤s.size:=by have:=h.hb;omega
 have SB:PermIn m n s s':=permIn_mono _ _ _ _ _ _ (Nat.le_refl _) (by omega) (by have:=h.hb;omega) hq
 have h':=h.perm hs SB
 have ek:s'[k]! =s[k]! :=hq.2.1 k (.inr (Nat.le_refl _))
 have lo':∀i,m≤i→i<k→lt s'[i]! s[k]! =true:=fun i g1 g2=>permIn_all s s' m k (fun x=>lt x s[k]! =true) hks hq lo i g1 g2
 have up':∀i,k<i→i<n→lt s'[i]! s[k]! =false:=fun i g1 g2=>by rw [hq.2.1 i (.inr (by omega))];exact up i g1 g2
 refine ⟨by have:=h.ha;omega,by omega,h.hb,h'.hp,.inr fun i g1 g2=> ?_,fun i j g1 g2 g3 g4=> ?_⟩
 · rw [show k+1-1=k by omega,ek];exact up' i (by omega) g2
 ·
  by_cases hh:i<m∨n≤j
  · exact h'.out i j g1 g2 g3 hh
  ·
   rcases Nat.lt_trichotomy i k with hik|hik|hik
   ·
    rcases Nat.lt_trichotomy j k with hjk|hjk|hjk
    · exact DQ i j (by omega) g2 hjk
    · subst hjk;rw [ek];exact hw.asym (lo' i (by omega) hik)
    · exact hw.ntrans _ _ _ (up' j hjk (by omega)) (hw.asym (lo' i (by omega) hik))
   · subst hik;rw [ek];exact up' j g2 (by omega)
   · omega
theorem PS.right (hw:SWO lt) {k:Nat} (h:PS lt a0 b0 m n l s) (hs:b0≤l.size) (hp:K9 lt m n k s) (hq:PermIn (k+1) n s s') (DQ:SortedIn lt (k+1) n s'):PS lt a0 b0 m k l s':=by
 obtain ⟨h1,h2,lo,up⟩:=hp
 have hsz:s.size=l.size:=h.hp.1
 have YX:n≤s.size:=by have:=h.hb;omega
 have SB:PermIn m n s s':=permIn_mono _ _ _ _ _ _ (by omega) (Nat.le_refl _) YX hq
 have h':=h.perm hs SB
 have ek:s'[k]! =s[k]! :=hq.2.1 k (.inl (by omega))
 have lo':∀i,m≤i→i<k→lt s'[i]! s[k]! =true:=fun i g1 g2=>by rw [hq.2.1 i (.inl (by omega))];exact lo i g1 g2
 have up':∀i,k<i→i<n→lt s'[i]! s[k]! =false:=fun i g1 g2=>permIn_all s s' (k+1) n (fun x=>lt x s[k]! =false) YX hq (fun i q1 q2=>up i (by omega) q2) i (by omega) g2
 refine ⟨h.ha,h1,by have:=h.hb;omega,h'.hp,?_,fun i j g1 g2 g3 g4=> ?_⟩
 ·
  rcases h'.below with hb|hb
  · exact .inl hb
  · exact .inr fun i q1 q2=>hb i q1 (by omega)
 ·
  by_cases hh:i<m∨n≤j
  · exact h'.out i j g1 g2 g3 hh
  ·
   rcases Nat.lt_trichotomy i k with hik|hik|hik
   ·
    rcases Nat.lt_trichotomy j k with hjk|hjk|hjk
    · omega
    · subst hjk;rw [ek];exact hw.asym (lo' i (by omega) hik)
    · exact hw.ntrans _ _ _ (up' j hjk (by omega)) (hw.asym (lo' i (by omega) hik))
   · subst hik;rw [ek];exact up' j g2 (by omega)
   · exact DQ i j (by omega) g2 (by omega)
theorem PS.Nc {k:Nat} (h:PS lt a0 b0 m n l s) (hk:k≤n):Below lt m k s:=h.below.imp id fun hb i g1 g2=>hb i g1 (by omega)
theorem K9.Nd {k:Nat} (hp:K9 lt m n k s):Below lt (k+1) n s:= .inr fun i g1 g2=>by rw [show k+1-1=k by omega];exact hp.up i (by omega) g2
theorem L_ (hw:SWO lt) (h:∀k,m<k→k<n→lt s[k]! s[k-1]! =false):SortedIn lt m n s:=by
 intro i j h1 h2 h3
 obtain ⟨d,rfl⟩:∃d,j=i+d+1:=⟨j-i-1,by omega⟩
 induction d with
 |zero=>exact h (i+0+1) (by omega) h3
 |succ d ih=>exact hw.ntrans _ _ _ (h (i+(d+1)+1) (by omega) h3) (by rw [show i+(d+1)+1-1=i+d+1 by omega];exact ih (by omega) (by omega))
end
section
variable {β:Type} [Inhabited β] {c:β×β→Int} {st:List β}
def SM (c:β×β→Int) (a b:Int) (l:List β):Prop:=∀k,a.toNat<k→k<b.toNat→Bp c l.toArray[k]! l.toArray[k-1]! =false
theorem SM.start (a:Int) (l:List β) (h0:0≤a):SM c a (a+1) l:=fun k h1 h2=>by omega
theorem SM.go {a i k:Int} (h:SM c a i st) (h0:0≤a) (ha:a<i) (hk:k=i-1) (hi:i.toNat<st.length) (hk':k.toNat<st.length) (hc:0≤c (st[i.toNat]'hi,st[k.toNat]'hk')):SM c a (i+1) st:=fun m h1 h2=>by
 rcases Nat.lt_or_ge m i.toNat with hm|hm
 · exact h m h1 hm
 ·
  have e:m=i.toNat:=by omega
  subst e
  rw [show i.toNat-1=k.toNat by omega,gx hi,gx hk'];exact Gk (by omega)
theorem SM.sorted {a b:Int} (hw:SWO (Bp c)) (h:SM c a b st):SortedIn (Bp c) a.toNat b.toNat st.toArray:=L_ hw h
end
section
variable {β:Type} [Inhabited β]
def B6 (a b:Int) (l st:List β):Prop:=PermIn a.toNat b.toNat l.toArray st.toArray
def CS (c:β×β→Int) (a b:Int) (l st:List β):Prop:=PermIn a.toNat b.toNat l.toArray st.toArray∧SortedIn (Bp c) a.toNat b.toNat st.toArray
theorem B6.len {a b:Int} {l st:List β} (h:B6 a b l st):st.length=l.length:=by have:=h.1;simpa using this
theorem CS.len {c:β×β→Int} {a b:Int} {l st:List β} (h:CS c a b l st):st.length=l.length:=by have:=h.1.1;simpa using this
def Gl (c:β×β→Int) (hi first lo:Int) (l st:List β):Prop:=st.length=l.length∧st.toArray=siftDown (Bp c) hi.toNat first.toNat lo.toNat l.toArray
theorem Gl.len {c:β×β→Int} {hi first lo:Int} {l st:List β} (h:Gl c hi first lo l st):st.length=l.length:=h.1
abbrev PE (c:β×β→Int) (a b pv:Int) (l:List β):Nat×Array β:=partitionEqual (Bp c) l.toArray a.toNat b.toNat pv.toNat
abbrev PA (c:β×β→Int) (a b pv:Int) (l:List β):Nat×Bool×Array β:=partition (Bp c) l.toArray a.toNat b.toNat pv.toNat
def K_ (c:β×β→Int) (a b pv:Int) (l st:List β):Prop:=st.length=l.length∧st.toArray=(PE c a b pv l).2
def Ia (c:β×β→Int) (a b pv:Int) (l st:List β):Prop:=st.length=l.length∧st.toArray=(PA c a b pv l).2.2
theorem K_.len {c:β×β→Int} {a b pv:Int} {l st:List β} (h:K_ c a b pv l st):st.length=l.length:=h.1
theorem Ia.len {c:β×β→Int} {a b pv:Int} {l st:List β} (h:Ia c a b pv l st):st.length=l.length:=h.1
theorem Od {c:β×β→Int} {a b pv:Int} {l:List β} (h0:0≤a) (hab:a<b) (ha:a.toNat<l.length) (hp:pv.toNat<l.length):Yl c a (a+1) (b-1) ((l.set a.toNat (l[pv.toNat]'hp)).set pv.toNat (l[a.toNat]'ha)).toArray=PE c a b pv l:=by
 unfold Yl PE partitionEqual
 rw [sw ha hp,show (a+1).toNat=a.toNat+1 by omega,show (b-1).toNat=b.toNat-1 by omega]
theorem EV {c:β×β→Int} {a b pv:Int} {l:List β} (h0:0≤a) (hab:a<b) (ha:a.toNat<l.length) (hp:pv.toNat<l.length) {st:List β} {j:Int}
  (h:WQ c a (a+1) (b-1) ((l.set a.toNat (l[pv.toNat]'hp)).set pv.toNat (l[a.toNat]'ha)).toArray=(j.toNat,st.toArray)) (hj:j.toNat<st.length) (has:a.toNat<st.length):(PA c a b pv l).1=j.toNat∧((st.set j.toNat (st[a.toNat]'has)).set a.toNat (st[j.toNat]'hj)).toArray=(PA c a b pv l).2.2:=by
 unfold WQ at h
 rw [sw ha hp,show (a+1).toNat=a.toNat+1 by omega,show (b-1).toNat=b.toNat-1 by omega] at h
 unfold PA
 rw [partition_fst,partition_arr,h,sw hj has]
 exact ⟨rfl,rfl⟩
theorem B6.refl (a b:Int) (l:List β):B6 a b l l:=permIn_refl _ _ _
theorem B6.swap {a b i j:Int} {l st:List β} (h:B6 a b l st) (hi:i.toNat<st.length) (hj:j.toNat<st.length) (h1:a.toNat≤i.toNat) (h2:i.toNat<b.toNat) (h3:a.toNat≤j.toNat) (h4:j.toNat<b.toNat) (hb:b.toNat≤l.length):
  B6 a b l ((st.set i.toNat (st[j.toNat]'hj)).set j.toNat (st[i.toNat]'hi)):=by
 unfold B6
 rw [sw hi hj]
 exact permIn_trans _ _ _ _ _ h (swp_permIn _ _ _ _ _ h1 h2 h3 h4 (by have:=h.len;simp;omega))
theorem B6.trans {a b:Int} {l m st:List β} (h:B6 a b l m) (k:B6 a b m st):B6 a b l st:=permIn_trans _ _ _ _ _ h k
theorem HM {c:β×β→Int} (hw:SWO (Bp c)) {a b pv:Int} {l st:List β} (h:Ia c a b pv l st) (h0:0≤a) (Fo:a≤pv) (Jq:pv<b) (hb:b.toNat≤l.length):B6 a b l st∧K9 (Bp c) a.toNat b.toNat (PA c a b pv l).1 st.toArray:=by
 obtain ⟨h1,h2,h3,h4,h5⟩:=partition_holds (Bp c) hw l.toArray a.toNat b.toNat pv.toNat (by omega) (by omega) (by simpa using hb)
 unfold B6
 rw [h.2]
 exact ⟨h3,h1,h2,h4,h5⟩
theorem PS.lU {c:β×β→Int} (hw:SWO (Bp c)) {a0 b0:Nat} {a b pv k:Int} {l st t:List β} (h:PS (Bp c) a0 b0 a.toNat b.toNat l.toArray st.toArray) (hs:b0≤l.toArray.size) (ht:K_ c a b pv st t) (h0:0<a) (hab:a<b) (hk:k=a-1) (JB:k.toNat<st.length) (Fo:a≤pv) (Jq:pv<b) (WR:pv.toNat<st.length) (hb:b.toNat≤st.length)
  (hc:0≤c (st[k.toNat]'JB,st[pv.toNat]'WR)):PS (Bp c) a0 b0 (PE c a b pv st).1 b.toNat l.toArray t.toArray∧a.toNat<(PE c a b pv st).1∧(PE c a b pv st).1≤b.toNat:=by
 have hlt:Bp c st.toArray[a.toNat-1]! st.toArray[pv.toNat]! =false:=by rw [show a.toNat-1=k.toNat by omega,gx JB,gx WR];exact Gk (by omega)
 have hmin:∀i,a.toNat≤i→i<b.toNat→Bp c st.toArray[i]! st.toArray[pv.toNat]! =false:=fun i h1 h2=>by
  rcases h.below with hb|hb
  · omega
  · exact hw.ntrans _ _ _ (hb i h1 h2) hlt
 obtain ⟨h1,h2,h3,h4,h5⟩:=partitionEqual_holds (Bp c) hw st.toArray a.toNat b.toNat pv.toNat (by omega) (by omega) (by simpa using hb) hmin
 refine ⟨?_,h1,h2⟩
 rw [ht.2]
 exact PS.eq hw h hs (by omega) hlt h1 h2 h3 h4 h5
theorem B6.whole {l st:List β} (h:B6 0 l.length l st):st.Perm l:=by
 have:=h.2.2
 have e:=h.len
 rwa [show ((l.length:Nat):Int).toNat=l.toArray.size by simp,show (0:Int).toNat=0 from rfl,Array.extract_size,show l.toArray.size=st.toArray.size by simp [e],Array.extract_size] at this
end
section
open Go
variable {P:Program} {L:Lg P} {n:Fm} {fz:Nat} {E:Env} {M0:Av} {w0:World} {S:Nat→Prop} {rs:List A0} {new:Bool} {b:Nat} {T:TypeId} {ps:List Pr}
theorem St.Ym (j:Nat) (qs:List Pr) (hj:rs[j]? =some (AD new b T ps)) (hl:I6 ps qs) {a:Act} {w:World} (h:St n E (Hp M0 w0 S rs) a w):St n E (Hp M0 w0 S (rs.set j (AD new b T qs))) a w:=by
 obtain ⟨M,h1,h2,h3,h4⟩:=h
 have h4:A1 M0 w0 S rs M w:=h4
 obtain ⟨hM,cs,hb,hc,ho⟩:=(h4.hold _ (List.mem_of_getElem? hj)).1
 exact ⟨M,h1,h2,h3,h4.CZ hj rfl rfl ⟨hM,cs,hb,hl.hl hc,ho⟩⟩
theorem Tr.Ym {Q:Exit→Act→World→Prop} {c:Code} (j:Nat) (qs:List Pr) (hj:rs[j]? =some (AD new b T ps)) (hl:I6 ps qs) (k:Tr L n E (Hp M0 w0 S (rs.set j (AD new b T qs))) c Q):Tr L n E (Hp M0 w0 S rs) c Q:=Tr.conv (fun _ _ hs=>hs.Ym j qs hj hl) k
end
end Cp
namespace Cp
open Go Go.RowKit Go.Great
section
variable {P:Program} {L:Lg P} {n:Fm} {fz:Nat} {E:Env} {I:CL} {Q:Exit→Act→World→Prop}
theorem Tr.RT {α0:Type} (K:Env) (hK:B_ E K) (F:α0→Env) (Ii:α0→CL) (C:α0→Prop) {x y:Code} (h:Tr L n E I x (Exit.then (fun a w=>∃x0,C x0∧St n (F x0++K) (Ii x0) a w) Q))
  (k:∀x0,C x0→Tr L n (F x0++K) (Ii x0) y Q):Tr L n E I (.seq x y) Q:=
 Tr.cut (fun y:α0=>F y++K) (fun y=>Ii y) (fun y=>C y) (Tr.post h fun e a w h=>by cases e<;>first|exact h|(obtain ⟨x0,h1,h2⟩:=h;exact ⟨x0,h1,h2⟩)) fun y hy=>k y hy
theorem Tr.KO {α0 α1:Type} (K:Env) (hK:B_ E K) (F:α0→α1→Env) (Ii:α0→α1→CL) (C:α0→α1→Prop) {x y:Code} (h:Tr L n E I x (Exit.then (fun a w=>∃x0 x1,C x0 x1∧St n (F x0 x1++K) (Ii x0 x1) a w) Q))
  (k:∀x0 x1,C x0 x1→Tr L n (F x0 x1++K) (Ii x0 x1) y Q):Tr L n E I (.seq x y) Q:=
 Tr.cut (fun y:α0×α1=>F y.1 y.2++K) (fun y=>Ii y.1 y.2) (fun y=>C y.1 y.2) (Tr.post h fun e a w h=>by cases e<;>first|exact h|(obtain ⟨x0,x1,h1,h2⟩:=h;exact ⟨(x0,x1),h1,h2⟩)) fun y hy=>k y.1 y.2 hy
theorem Tr.RU {α0 α1 α2:Type} (K:Env) (hK:B_ E K) (F:α0→α1→α2→Env) (Ii:α0→α1→α2→CL) (C:α0→α1→α2→Prop) {x y:Code} (h:Tr L n E I x (Exit.then (fun a w=>∃x0 x1 x2,C x0 x1 x2∧St n (F x0 x1 x2++K) (Ii x0 x1 x2) a w) Q))
  (k:∀x0 x1 x2,C x0 x1 x2→Tr L n (F x0 x1 x2++K) (Ii x0 x1 x2) y Q):Tr L n E I (.seq x y) Q:=
 Tr.cut (fun y:α0×α1×α2=>F y.1 y.2.1 y.2.2++K) (fun y=>Ii y.1 y.2.1 y.2.2) (fun y=>C y.1 y.2.1 y.2.2) (Tr.post h fun e a w h=>by cases e<;>first|exact h|(obtain ⟨x0,x1,x2,h1,h2⟩:=h;exact ⟨(x0,x1,x2),h1,h2⟩)) fun y hy=>k y.1 y.2.1 y.2.2 hy
end
section
variable {P:Program} {L:Lg P} {n:Fm} {fz:Nat} {E:Env} {M0:Av} {w0:World} {S:Nat→Prop} {rs:List A0} {β:Type} {e:TypeId} {sz:Nat} {f:β→List Pr} {Φ:List β→Prop} {v:Value}
def LA (e:TypeId) (sz:Nat) (f:β→List Pr) (Φ:List β→Prop) (v:Value):A0 where
 D8:=match v with| .slice (some a) _ _=>some a.block|_=>none
 new:=true
 h M w:=∃st:List β,Φ st∧(Bc e sz (st.map f) v).h M w
 st M w M' w' he hk h:=let ⟨st,h1,h2⟩:=h;⟨st,h1,(Bc e sz (st.map f) v).st M w M' w' he hk h2⟩
theorem BQ.XI {g:FuncId} {l:List β} {ps:List Pr} {res:Pr} [Gt res] (h0:l=[]→BT P g (is (.slice none 0 0)::ps) res∧Φ [])
  (h1:∀(b cap:Nat) (sp:List Value),BQ P g (is (.slice (some ⟨b,0,none⟩) l.length cap)::ps) res (AD true b e ((l.map f).flatten++sp.map is)) (fun _=>Bw b e f Φ (sp.map is)))
  (hl:∀st,Φ st→st.length=l.length) (hE:Entry P g):BQ P g (is v::ps) res (Bc e sz (l.map f) v) (fun _=>LA e sz f Φ v):=by
 refine ⟨hE,fun M0 w0 S rs M w vs hI hv=> ?_⟩
 have hb0:=hI.hold _ (List.mem_cons_self ..)
 rcases hb0.1 with ⟨hnil,rfl⟩|UB
 ·
  have Ep:l=[]:=by simpa using hnil
  obtain ⟨mq,mu⟩:=h0 Ep
  refine (mq.2 M w vs hI.bd hv).mono ?_
  rintro e' w' ⟨u,rfl,h2,h3⟩
  have KG:A1 M0 w0 S (Bc e sz (l.map f) (.slice none 0 0)::rs) M w':=(Hp M0 w0 S _).st _ _ _ h3 hI
  exact ⟨u,M,rfl,Gt.free _ _ _ _ h2,Ext.below h3,KG.CZ (i:=0) rfl rfl rfl ⟨[],mu,.inl ⟨rfl,rfl⟩⟩⟩
 ·
  obtain ⟨b,cap,spare,rfl,hnc,hcm,hsp,SL⟩:=UB
  have hC:=hI.CZ (i:=0) (r':=AD true b e ((l.map f).flatten++spare.map is)) rfl rfl rfl SL
  have YT:(l.map f).length=l.length:=List.length_map ..
  rw [YT] at hv
  refine ((h1 b cap spare).2 M0 w0 S rs M w vs hC hv).mono ?_
  rintro e' w' ⟨u,M',rfl,h2,h3,h4⟩
  refine ⟨u,M',rfl,h2,h3,?_⟩
  obtain ⟨st,hp,hst⟩:=(h4.hold _ (List.mem_cons_self ..)).1
  have hlen:(st.map f).length=(l.map f).length:=by rw [List.length_map,List.length_map,hl st hp]
  exact h4.CZ (i:=0) rfl rfl rfl ⟨st,hp,.inr ⟨b,cap,spare,by rw [hlen],by rw [hlen];exact hnc,hcm,by rw [hlen];exact hsp,hst⟩⟩
theorem St.UH (j d:Nat) {p:Pr} (hj:rs[j]? =some (LA e sz f Φ v)) (hd:E.lookup d=some (BB v p)) (hf:∀x,(f x).length=sz) {a:Act} {w:World} (hs:St n E (Hp M0 w0 S rs) a w):
  ∃st:List β,Φ st∧St n ((d,BB v (slice sz (st.map f)))::E) (Hp M0 w0 S (rs.set j (BX e sz v))) a w:=by
 obtain ⟨M,h1,h2,h3,h4⟩:=hs
 have h4:A1 M0 w0 S rs M w:=h4
 have hjl:j<rs.length:=by rcases Nat.lt_or_ge j rs.length with h|h;exact h;rw [List.getElem?_eq_none h] at hj;cases hj
 obtain ⟨st,hp,hst⟩:=(h4.hold _ (List.mem_of_getElem? hj)).1
 have h5:=h4.CZ (r':=Bc e sz (st.map f) v) hj rfl rfl hst
 obtain ⟨M',h6,h7,h8⟩:=A1.dI h5 (List.getElem?_set_self hjl) (A8 hf)
 rw [List.set_set] at h7
 refine ⟨st,hp,M',h1,h2,fun s q hq=> ?_,h7⟩
 simp only [List.lookup] at hq
 split at hq
 ·
  rename_i e1
  have:s=d:=by simpa using e1
  subst this
  simp only [Option.some.injEq] at hq
  subst hq
  have h9:=(h3 _ _ hd).1
  exact ⟨h9,by rw [h9];exact h8⟩
 · exact q.st _ _ _ _ _ h6 (h3 s q hq)
theorem TO.UH {Q:Exit→Act→World→Prop} {ops:Array Oper} {r:List Oper} (j d:Nat) {p:Pr} (hj:rs[j]? =some (LA e sz f Φ v)) (hd:E.lookup d=some (BB v p)) (hf:∀x,(f x).length=sz)
  (k:∀st:List β,Φ st→TO P n ops r ((d,BB v (slice sz (st.map f)))::E) (Hp M0 w0 S (rs.set j (BX e sz v))) Q):TO P n ops r E (Hp M0 w0 S rs) Q:=
 fun m hl a w hs=>let ⟨st,h1,h2⟩:=hs.UH j d hj hd hf;k st h1 m hl a w h2
theorem Tr.UH {Q:Exit→Act→World→Prop} {c:Code} (j d:Nat) {p:Pr} (hj:rs[j]? =some (LA e sz f Φ v)) (hd:E.lookup d=some (BB v p)) (hf:∀x,(f x).length=sz)
  (k:∀st:List β,Φ st→Tr L n ((d,BB v (slice sz (st.map f)))::E) (Hp M0 w0 S (rs.set j (BX e sz v))) c Q):Tr L n E (Hp M0 w0 S rs) c Q:=
 fun a w hs=>let ⟨st,h1,h2⟩:=hs.UH j d hj hd hf;k st h1 a w h2
theorem EW {rows Af:List (List Pr)} (h:rows=Af) {M:Av} {w:World} (k:(Hp M0 w0 S (Bc e sz rows v::rs)).h M w):(Hp M0 w0 S (Bc e sz Af v::rs)).h M w:=by subst h;exact k
theorem Ib {rows:List (List Pr)} (h:rows=[]):Pr.le (is (.slice none 0 0)) (BB (.slice none 0 0) (lens rows.length)):=by
 subst h;exact fun _ _ _ hv=>⟨hv,⟨none,0,by rw [hv];rfl⟩⟩
theorem D0 {v:Value} {a b:Nat} (h:a=b):Pr.le (BB v (lens a)) (BB v (lens b)):=by subst h;exact Pr.le_refl _
end
section
variable {P:Program} {L:Lg P} {n:Fm} {fz:Nat} {E:Env} {M0:Av} {w0:World} {S:Nat→Prop} {rs:List A0} {o:Oper}
end
section
variable {P:Program} {L:Lg P} {n:Fm} {fz:Nat} {E:Env} {M0:Av} {w0:World} {S:Nat→Prop} {rs:List A0} {ε:Type} {res:ε→List A0}
def Nf (res:ε→List A0) (es:List ε):List A0:=es.flatMap res
theorem UI:∀{es:List ε} {k:Nat} {x:ε},es[k]? =some x→(Nf res es).Perm (res x++Nf res (es.eraseIdx k))
 |[],_,_,h=>by simp at h
 |a::es,0,x,h=>by
  simp only [List.getElem?_cons_zero,Option.some.injEq] at h
  subst h
  exact List.Perm.refl _
 |a::es,k+1,x,h=>by
  have ih:=UI (es:=es) (k:=k) (x:=x) (by simpa using h)
  show (res a++Nf res es).Perm (res x++(res a++Nf res (es.eraseIdx k)))
  refine (ih.append_left (res a)).trans ?_
  rw [←List.append_assoc,←List.append_assoc]
  exact List.perm_append_comm.append_right _
theorem UJ (es:List ε) (x:ε):Nf res (es++[x])=Nf res es++res x:=by unfold Nf;simp
theorem QF {a b c:List A0} (h:b.Perm c):(a++b).Perm (a++c):=h.append_left a
theorem St.perm {rs':List A0} (hp:rs.Perm rs') {a:Act} {w:World} (h:St n E (Hp M0 w0 S rs) a w):St n E (Hp M0 w0 S rs') a w:=by
 obtain ⟨M,h1,h2,h3,h4⟩:=h
 exact ⟨M,h1,h2,h3,A1.perm hp h4⟩
theorem Tr.focus {Q:Exit→Act→World→Prop} {c:Code} (Oe:List A0) {es:List ε} {k:Nat} {x:ε} (hx:es[k]? =some x) (Yn:rs=Oe++Nf res es) (kk:Tr L n E (Hp M0 w0 S (res x++(Oe++Nf res (es.eraseIdx k)))) c Q):Tr L n E (Hp M0 w0 S rs) c Q:=
 Tr.conv (fun _ _ hs=>hs.perm (by
  subst Yn
  refine (QF (UI hx)).trans ?_
  rw [←List.append_assoc,←List.append_assoc]
  exact List.perm_append_comm.append_right _)) kk
end
section
variable {P:Program} {L:Lg P} {n:Fm} {fz:Nat} {E:Env} {M0:Av} {w0:World} {S:Nat→Prop} {rs:List A0} {o:Oper}
end
section
variable {P:Program} {L:Lg P} {n:Fm} {fz:Nat} {E:Env} {M0:Av} {w0:World} {S:Nat→Prop} {rs:List A0} {o:Oper}
instance SN (p q:Pr) [Gt p] [Gt q]:Gt (DT [p,q]):=⟨fun M M' w v ⟨cs,h1,h2⟩=>⟨cs,h1,by
 match cs,h2 with
 |[a,b],h2=>exact ⟨Gt.free _ _ _ _ h2.1,Gt.free _ _ _ _ h2.2.1,trivial⟩⟩⟩
end
section
variable {P:Program} {L:Lg P} {n:Fm} {fz:Nat} {E:Env} {M0:Av} {w0:World} {S:Nat→Prop} {o:Oper}
end
section
variable {P:Program} {L:Lg P} {n:Fm} {fz:Nat} {E:Env} {M0:Av} {w0:World} {S:Nat→Prop} {rs:List A0} {ε:Type} {res:ε→List A0}
theorem Tr.jH {Q:Exit→Act→World→Prop} {c:Code} (j:Nat) {new:Bool} {b:Nat} {T:TypeId} {ps:List Pr} (qs:List Pr) (hi:rs[j]? =some (AD new b T ps)) (h:ps=qs) (k:Tr L n E (Hp M0 w0 S (rs.set j (AD new b T qs))) c Q):Tr L n E (Hp M0 w0 S rs) c Q:=by
 subst h;exact Tr.Fj j ps hi (I6.rfl' ps) k
theorem Fin.jH {Q:Exit→Act→World→Prop} {e:Exit} (j:Nat) {new:Bool} {b:Nat} {T:TypeId} {ps:List Pr} (qs:List Pr) (hi:rs[j]? =some (AD new b T ps)) (h:ps=qs) (k:Fin n E (Hp M0 w0 S (rs.set j (AD new b T qs))) Q e):Fin n E (Hp M0 w0 S rs) Q e:=by
 subst h;exact Fin.Fj j ps hi (I6.rfl' ps) k
end
section
variable {P:Program} {L:Lg P} {n:Fm} {fz:Nat} {E:Env} {M0:Av} {w0:World} {S:Nat→Prop} {o:Oper}
theorem UK {I:CL} {t e:TypeId} {x:Operand} {m:Nat} (ho:o.op= .call { callee:= .builtin .len,args:= #[x],argTypes:= #[t] }) (ht:P.underlying t=some (.slice e)) (hx:VL E x (lens m)):Ab P I o E (int m):=
 Ab.same fun M w a he _=>by
  obtain ⟨A,c,h1⟩:=hx.ev he (by simp [ho,Op.operands,Call.operands])
  exact ⟨.int .i64 m,by simp [execOp,ho,resolve,invoke,builtin,Builtin.len_,h1,run_underlying ht,goInt],rfl⟩
end
end Cp
namespace Cp
open Go Go.RowKit
section
variable {P:Program} {L:Lg P} {I:CL} {o:Oper} {E:Env}
theorem SO {c y:Operand} {b d:Bool} (ho:o.op= .pick c (.const (.bool true)) y) (hc:VL E c (bool b)) (hy:VL E y (bool d)):Ab P I o E (bool (b||d)):=by
 cases b with
 |true=>exact Fw ho hc rfl (vl rfl)
 |false=>exact Dd ho hc rfl hy
theorem QG {c x:Operand} {b d:Bool} (ho:o.op= .pick c x (.const (.bool false))) (hc:VL E c (bool b)) (hx:VL E x (bool d)):Ab P I o E (bool (b&&d)):=by
 cases b with
 |true=>exact Fw ho hc rfl hx
 |false=>exact Dd ho hc rfl (vl rfl)
theorem AR {β:Type} {g:β→Pr} {l:List β} {qs:List Pr} {i:Int} (h:i.toNat<l.length):((l.map fun x=>[g x]).flatten++qs)[0+i.toNat*1]? =some (g (l[i.toNat]'h)):=
 E9 (f:=fun x=>[g x]) (fun _=>rfl) (List.getElem?_eq_getElem h) rfl
end
section
variable {P:Program} {L:Lg P} {n:Fm} {fz:Nat} {E:Env} {M0:Av} {w0:World} {S:Nat→Prop} {rs:List A0} {o:Oper}
theorem F8 {β:Type} {g:β→Pr} {l:List β} {qs:List Pr} {m k:Nat} {x:β} (hm:m=k) (h:l[k]? =some x):((l.map fun x=>[g x]).flatten++qs)[m]? =some (g x):=by
 subst hm
 have h1:=E9 (f:=fun x=>[g x]) (qs:=qs) (fun _=>rfl) (i:=((m:Nat):Int)) (by rw [Int.toNat_natCast];exact h) rfl
 rw [Int.toNat_natCast,Nat.zero_add,Nat.mul_one] at h1
 exact h1
end
end Cp
namespace Cp
open Go Go.RowKit Go.Great
def Gu {α:Type} (P:Program) (f:FuncId) (args:List Pr) (pre:List A0) (C:α→Prop) (res:α→Pr) (post:α→List A0):Prop:=Entry P f∧∀M0 w0 S rs M w vs,A1 M0 w0 S (pre++rs) M w→HL M w args vs→
 Calls P f vs.toArray w fun e w'=>∃v M' x,e= .returned v∧C x∧(res x).h M' w' v∧Ext M w M' w'∧A1 M0 w0 S (post x++rs) M' w'
def Mg {α:Type} (M0:Av) (w0:World) (S:Nat→Prop) (rs:List A0) (M1:Av) (w1:World) (C:α→Prop) (res:α→Pr) (post:α→List A0) (e:Ending) (w':World):Prop:=∃v M' x,e= .returned v∧C x∧(res x).h M' w' v∧Ext M1 w1 M' w'∧A1 M0 w0 S (post x++rs) M' w'
section
variable {P:Program} {L:Lg P} {n:Fm} {fz:Nat} {E:Env} {M0:Av} {w0:World} {S:Nat→Prop} {rs:List A0} {α:Type} {pre:List A0} {C:α→Prop} {res:α→Pr} {post:α→List A0} {M1:Av} {w1:World} {g:Func} {o:Oper} {r:List Oper} {ops:Array Oper}
theorem Gu.of {f : FuncId} {c : Code} {ps : List Pr} (hf : P.funcs[f]? = some g) (hb : g.body = some c) (hname : (g.name == "runtime.NumGoroutine") = false) (hlen : ps.length ≤ g.ntmps)
  (h:∀M0 w0 S rs M1 w1,Tr (Y2 P) g.ntmps (J5 0 ps) (Hp M0 w0 S (pre++Ai M1 w1::rs)) c (bodyPost P g (Mg M0 w0 S rs M1 w1 C res post))):Gu P f ps pre C res post:=by
 refine ⟨⟨g,hf,hname,by rw [hb];rfl⟩,fun M0 w0 S rs M w vs hI hv=> ?_⟩
 refine calls_of_wp hf hb (h M0 w0 S rs M w _ _ ⟨M,?_,rfl,HF hv,?_⟩)
 ·
  have:=hv.length
  simp [this];omega
 · exact A1.perm List.perm_middle.symm (A1.L8 hI (r:=Ai M w) rfl (Ext.refl _ _))
theorem A1.Mh {M:Av} {w:World} {f:FuncId} {args:List Pr} {rest:List A0} (hf:Gu P f args pre C res post) (hp:rs.Perm (pre++rest)) (hI:A1 M0 w0 S rs M w) {vs:List Value} (hv:HL M w args vs):
  Calls P f vs.toArray w fun e w'=>∃v M' x,e= .returned v∧C x∧(res x).h M' w' v∧Ext M w M' w'∧A1 M0 w0 S (post x++rest) M' w':=hf.2 M0 w0 S rest M w vs (A1.perm hp hI) hv
theorem TO.Mh {Q:Exit→Act→World→Prop} {f:FuncId} {xs:Array Operand} {ts:Array TypeId} {ps:List Pr} (rest:List A0) {d:Nat} (hg:o.guard=none) (hd:o.dst=some d) (hn:d<n) (ho:o.op= .call { callee:= .value (.func f),args:=xs,argTypes:=ts }) (hf:Gu P f ps pre C res post)
  (hv:FK E xs.toList ps) (hp:rs.Perm (pre++rest)) (k:∀x,C x→TO P n ops r ((d,res x)::E) (Hp M0 w0 S (post x++rest)) Q):TO P n ops (o::r) E (Hp M0 w0 S rs) Q:=
 TO.Pz hg fun K M w a hsz hdf he hI hK=>by
  have hI:A1 M0 w0 S rs M w:=hI
  have h1:=FK.Dr (o:=o) (Bq he) (xs:=xs.toList) (fun x hx=>by simp [ho,Op.operands,Call.operands];exact .inr (by simpa using hx)) hv
  have hrun:(execOp a.eval o).run P w= .ok (.enter f (xs.toList.map a.eval).toArray) w:=by
   simp [execOp,ho,resolve,Deferred.ofValue,Act.eval,invoke,Cu hf.1,ES xs]
  unfold Oper.wp
  rw [hrun]
  refine (A1.Mh hf hp hI h1).mono ?_
  rintro e w' ⟨v,M',x,rfl,hC,h2,h3,h4⟩
  refine hK _ _ _ _ (k x hC) ⟨M',by rw [Bn];exact hsz,by rw [put_defers];exact hdf,?_,h4⟩
  intro s q hq
  simp only [List.lookup] at hq
  by_cases hs:s=d
  · subst hs;simp at hq;subst hq;rw [hd,Bf (by rw [hsz];exact hn)];exact h2
  · rw [show (s==d)=false by simpa using hs] at hq;rw [hd,Bm hs];exact q.st _ _ _ _ _ h3 (he s q hq)
theorem E_ {l:List A0} {M:Av} {w:World} (h:A1 M0 w0 S (l++Ai M1 w1::rs) M w):Ext M1 w1 M w∧A1 M0 w0 S (l++rs) M w:=
 ⟨(h.hold (Ai M1 w1) (by simp)).1,(A1.perm List.perm_middle h).Kn⟩
theorem Fin.LB {rv:ResultVar} {q:Pr} {rs':List A0} (x:α) (hr:g.results= #[rv]) (h:A6 P E rs' rv q) (hC:C x) (hl:Pr.le q (res x)) (hp:rs'.Perm (post x++Ai M1 w1::rs)):
  Fin ⟨fz,[]⟩ E (Hp M0 w0 S rs') (bodyPost P g (Mg M0 w0 S rs M1 w1 C res post)) .ret:=by
 rintro a w ⟨M,_,hd,he,hi⟩
 have hi:A1 M0 w0 S rs' M w:=hi
 obtain ⟨v,hv,KE⟩:=h M w a he (fun q hq=>(hi.hold q hq).1)
 obtain ⟨h1,h2⟩:=E_ (A1.perm hp hi)
 exact ⟨hd,v,results1 hr hv,_,M,x,rfl,hC,hl _ _ _ KE,h1,h2⟩
theorem Fin.Yo {rv lV:ResultVar} {q q':Pr} {rs':List A0} (x:α) (hr:g.results= #[rv,lV]) (h:A6 P E rs' rv q) (h':A6 P E rs' lV q') (hC:C x) (hl:Pr.le (DT [q,q']) (res x)) (hp:rs'.Perm (post x++Ai M1 w1::rs)):
  Fin ⟨fz,[]⟩ E (Hp M0 w0 S rs') (bodyPost P g (Mg M0 w0 S rs M1 w1 C res post)) .ret:=by
 rintro a w ⟨M,_,hd,he,hi⟩
 have hi:A1 M0 w0 S rs' M w:=hi
 obtain ⟨v,hv,Fo⟩:=h M w a he (fun q hq=>(hi.hold q hq).1)
 obtain ⟨v',cH,Jq⟩:=h' M w a he (fun q hq=>(hi.hold q hq).1)
 obtain ⟨h1,h2⟩:=E_ (A1.perm hp hi)
 exact ⟨hd,_,results2 hr hv cH,_,M,x,rfl,hC,hl _ _ _ ⟨[_,_],rfl,Fo,Jq,trivial⟩,h1,h2⟩
end
section
variable {P:Program} {L:Lg P} {n:Fm} {fz:Nat} {E:Env} {M0:Av} {w0:World} {S:Nat→Prop} {rs:List A0} {o:Oper}
def Zf:Value→Option Nat
 | .slice (some a) _ (_+1)=>some a.block
 |_=>none
def BA (e:TypeId) (sz:Nat) (rows:List (List Pr)) (v:Value):A0 where
 D8:=Zf v
 new:=true
 h M w:=(rows=[]∧∃A,v= .slice A 0 0)∨(∃(b cap:Nat) (spare:List Value),v= .slice (some ⟨b,0,none⟩) rows.length (cap+1)∧rows.length≤cap+1∧cap+1≤maxLen∧spare.length=(cap+1-rows.length)*sz∧(AD true b e (rows.flatten++spare.map is)).h M w)
 st M w M' w' he hk h:=by
  rcases h with h|⟨b,cap,spare,rfl,h1,h2,h3,h4⟩
  · exact .inl h
  · exact .inr ⟨b,cap,spare,rfl,h1,h2,h3,(AD true b e _).st _ _ _ _ he hk h4⟩
theorem CD {α:Type} {l:List α} {j:Nat} {x:α} (h:l[j]? =some x):j<l.length:=by
 rcases Nat.lt_or_ge j l.length with h'|h'
 · exact h'
 · rw [List.getElem?_eq_none h'] at h;cases h
theorem A1.blank {M:Av} {w:World} {j:Nat} {r:A0} (h:A1 M0 w0 S rs M w) (hj:rs[j]? =some r):A1 M0 w0 S (rs.set j Bz) M w:=
 A1.perm (Gx (CD hj)) ((A1.perm (Dx hj) h).Kn.L8 (r:=Bz) rfl trivial)
theorem LC (sz:Nat) (A:Option Addr) (M:Av) (w:World):(slice sz []).h M w (.slice A 0 0):=⟨A,0,rfl,Nat.le_refl _,Nat.zero_le _,fun _=>rfl,fun i row h=>by simp at h⟩
theorem A1.Zg {M:Av} {w:World} {sz:Nat} {e:TypeId} {rows:List (List Pr)} {v:Value} {j:Nat} (h:A1 M0 w0 S rs M w) (hj:rs[j]? =some (BA e sz rows v)) (hl:∀r∈rows,r.length=sz):
  ∃M',Ext M w M' w∧A1 M0 w0 S (rs.set j Bz) M' w∧(slice sz rows).h M' w v:=by
 have hjl:=CD hj
 rcases (h.hold _ (List.mem_of_getElem? hj)).1 with ⟨rfl,A,rfl⟩|⟨b,cap,spare,rfl,hnc,hcm,hsp,SL⟩
 · exact ⟨M,Ext.refl _ _,h.blank hj,LC sz A M w⟩
 ·
  have hC:=h.CZ (r':=AD true b e (rows.flatten++spare.map is)) hj rfl rfl SL
  obtain ⟨M',h1,h2,h3⟩:=A1.cr hC (List.getElem?_set_self hjl) hl hnc hcm (by rw [List.length_map];exact hsp)
  have h4:=h2.blank (j:=j) (by rw [List.set_set];exact List.getElem?_set_self hjl)
  rw [List.set_set,List.set_set] at h4
  exact ⟨M',h1,h4,h3⟩
theorem HL.set {M:Av} {w:World} {ps:List Pr} {vs:List Value} {k:Nat} {p q:Pr} (h:HL M w ps vs) (hk:ps[k]? =some p) (hq:∀u,p.h M w u→q.h M w u):HL M w (ps.set k q) vs:=by
 refine OO (by rw [h.length];simp) fun k' p' hk'=> ?_
 rw [List.getElem?_set] at hk'
 split at hk'
 ·
  rename_i e1
  subst e1
  split at hk'
  ·
   obtain ⟨u,hu,Y6⟩:=h.at_ k p hk
   simp at hk';subst hk'
   exact ⟨u,hu,hq u Y6⟩
  · cases hk'
 · exact h.at_ k' p' hk'
theorem A1.Jt {M:Av} {w:World} {i j k sz b:Nat} {new:Bool} {T e:TypeId} {ps:List Pr} {rows:List (List Pr)} {v:Value} (h:A1 M0 w0 S rs M w) (hi:rs[i]? =some (AD new b T ps)) (hj:rs[j]? =some (BA e sz rows v)) (hij:j≠i) (hk:ps[k]? =some (is v)) (hl:∀r∈rows,r.length=sz):
  ∃M',Ext M w M' w∧A1 M0 w0 S ((rs.set j Bz).set i (AD new b T (ps.set k (slice sz rows)))) M' w:=by
 obtain ⟨M',h1,h2,h3⟩:=h.Zg hj hl
 have hi':(rs.set j Bz)[i]? =some (AD new b T ps):=by rw [List.getElem?_set_ne hij];exact hi
 refine ⟨M',h1,h2.CZ hi' rfl rfl ?_⟩
 obtain ⟨g1,cs,g2,g3,g4⟩:=(h2.hold _ (List.mem_of_getElem? hi')).1
 exact ⟨g1,cs,g2,g3.set hk (fun u hu=>by rw [show u=v from hu];exact h3),g4⟩
def part (sz:Nat) (v:Value) (k:Nat):Pr where
 h _ _ u:=∃a m c,v= .slice a m c∧k≤m∧u= .slice (if c=k then a else a.map fun x=>x.add (k*sz)) (m-k) (c-k)
 st _M _w _M' _w' _v _ h:=h
instance dP (sz:Nat) (v:Value) (k:Nat):One (part sz v k):=⟨by rintro M w u ⟨a,m,c,h1,h2,rfl⟩;exact ⟨rfl,rfl⟩⟩
theorem BQ.cr {f:FuncId} {args:List Pr} {e:TypeId} {sz m:Nat} {rows:List (List Pr)} {R:A0} (hl:∀r∈rows,r.length=sz) (h:BQ P f args (lens m) R (fun v=>Bc e sz rows v)):BQ P f args (slice sz rows) R (fun _=>Bz):=by
 refine ⟨h.1,fun M0 w0 S rs M w vs hI hv=>(h.2 M0 w0 S rs M w vs hI hv).mono ?_⟩
 rintro e' w' ⟨v,M',rfl,h2,h3,h4⟩
 obtain ⟨M2,j1,j2,j3⟩:=A1.dI (j:=0) h4 rfl hl
 exact ⟨v,M2,rfl,j3,h3.trans j1,j2.blank (j:=0) rfl⟩
def gb (sz:Nat) (v:Value) (i o:Nat):Pr where
 h _ _ u:=∃a m c,v= .slice (some a) m c∧u= .pointer (some (a.add (i*sz+o)))
 st _M _w _M' _w' _v _ h:=h
instance gh (sz:Nat) (v:Value) (k o:Nat):One (gb sz v k o):=⟨by rintro M w u ⟨a,m,c,h1,rfl⟩;exact ⟨rfl,rfl⟩⟩
theorem H8 {t e:TypeId} {x y:Operand} {k:IntKind} {l:Int} {sz j:Nat} {T:TypeId} {rows:List (List Pr)} {v:Value} (ho:o.op= .indexAddr t x y) (ht:P.underlying t=some (.slice e)) (hz:BJ P e=some sz) (hx:VL E x (is v)) (hy:VL E y (is (.int k l))) (h0:0≤l) (hl:l<rows.length):
  II P M0 w0 S j (SR.c (BA T sz rows v)) o E (gb sz v l.toNat 0):=by
 intro M w a rs he hI hj
 have h1:a.eval x=v:=hx.ev he (by simp [ho,Op.operands])
 have h3:a.eval y= .int k l:=hy.ev he (by simp [ho,Op.operands])
 have hj':rs[j]? =some (BA T sz rows v):=hj
 rcases (hI.hold _ (List.mem_of_getElem? hj')).1 with ⟨rfl,A,hv⟩|⟨b,cap,spare,hv,hnc,hcm,hsp,SL⟩
 · simp at hl;omega
 ·
  have hrun:(execOp a.eval o).run P w= .ok (.value (.pointer (some ((⟨b,0,none⟩:Addr).add (l.toNat*sz))))) w:=by
   simp [execOp,ho,h1,h3,hv,Instr.indexAt,asIntOf,run_underlying ht,B1 hz,h0,hl]
  rw [hrun]
  exact ⟨⟨_,_,_,hv,rfl⟩,Below.refl _ _⟩
theorem F9 {t:TypeId} {x:Operand} {sz j i:Nat} {T:TypeId} {rows:List (List Pr)} {row:List Pr} {v:Value} (ho:o.op= .load t x) (ht:GM P t=true) (hz:BJ P t=some sz) (hx:VL E x (gb sz v i 0)) (hl:∀r∈rows,r.length=sz) (hi:rows[i]? =some row):
  II P M0 w0 S j (SR.c (BA T sz rows v)) o E (agg row):=by
 intro M w a rs he hI hj
 obtain ⟨a0,m0,c0,ZC,h1⟩:=hx.ev he (by simp [ho,Op.operands])
 rw [Nat.add_zero] at h1
 have hj':rs[j]? =some (BA T sz rows v):=hj
 rcases (hI.hold _ (List.mem_of_getElem? hj')).1 with ⟨rfl,A,hv⟩|⟨b,cap,spare,hv,hnc,hcm,hsp,⟨_,cs,h4,h5,h6⟩⟩
 · simp at hi
 ·
  rw [ZC] at hv
  injection hv with e1 e2 e3
  injection e1 with e1
  subst e1
  have Dn:=CD hi
  have hrl:=hl row (List.mem_of_getElem? hi)
  have hfl:=Bt hl
  have hle:(i+1)*sz≤rows.length*sz:=Nat.mul_le_mul_right sz Dn
  rw [Nat.add_mul] at hle
  have h7:HL M w row ((cs.drop (i*sz)).take sz):=by
   have h8:=(h5.drop (i*sz)).take sz
   have e4:((rows.flatten++spare.map is).drop (i*sz)).take sz=row:=by
    refine List.ext_getElem? fun j=> ?_
    rw [List.getElem?_take]
    split
    ·
     rename_i hj
     rw [List.getElem?_drop,List.getElem?_append_left (by rw [hfl];omega),GS hl hi hj]
    · rw [List.getElem?_eq_none (by omega)]
   rwa [e4] at h8
  have hl':((cs.drop (i*sz)).take sz).length=sz:=by rw [h7.length,hrl]
  have hrun:(loadCells ((⟨b,0,none⟩:Addr).add (i*sz)) sz).run P w= .ok ((cs.drop (i*sz)).take sz).toArray w:=by
   have:=run_loadCells_list (P:=P) w ((⟨b,0,none⟩:Addr).add (i*sz)) ((cs.drop (i*sz)).take sz) (fun k u hk=>by
    rw [add_add,EU]
    rw [List.getElem?_take] at hk
    split at hk
    · rw [List.getElem?_drop] at hk;simp [World.cell?,h4,hk]
    · cases hk)
   rwa [hl'] at this
  have DO:(execOp a.eval o).run P w= .ok (.value (.agg ((cs.drop (i*sz)).take sz).toArray)) w:=by simp [execOp,ho,h1,Instr.loadAt,Instr.sureAddr,loadVar,C1 ht,B1 hz,hrun]
  rw [DO]
  exact ⟨⟨_,rfl,fun c hc=>h6 c (List.mem_of_mem_drop (List.mem_of_mem_take hc)),h7⟩,Below.refl _ _⟩
theorem Of {sz:Nat}:∀{rows:List (List Pr)} {i:Nat} {row:List Pr} {o:Nat} {qs S:List Pr},(∀r∈rows,r.length=sz)→rows[i]? =some row→o+qs.length≤sz→
  (rows.flatten++S).take (i*sz+o)++qs++(rows.flatten++S).drop (i*sz+o+qs.length)=(rows.set i (row.take o++qs++row.drop (o+qs.length))).flatten++S
 |[],_,_,_,_,_,_,h,_=>by simp at h
 |a::l,0,row,o,qs,S,hl,h,ho=>by
  simp at h;subst h
  have h1:=hl a (by simp)
  rw [List.set_cons_zero,List.flatten_cons,List.flatten_cons,Nat.zero_mul,Nat.zero_add,List.append_assoc a,List.take_append_of_le_length (by omega),List.drop_append_of_le_length (by omega)]
  simp
 |a::l,i+1,row,o,qs,S,hl,h,ho=>by
  have h1:=hl a (by simp)
  have ih:=Of (S:=S) (fun r hr=>hl r (List.mem_cons_of_mem _ hr)) (i:=i) (row:=row) (o:=o) (qs:=qs) (by simpa using h) ho
  rw [List.set_cons_succ, List.flatten_cons, List.flatten_cons, List.append_assoc a, List.append_assoc a, ← ih, List.take_append, List.drop_append, List.take_of_length_le (by rw [h1, Nat.succ_mul]; omega), List.drop_of_length_le (by rw [h1, Nat.succ_mul]; omega),
   show (i+1)*sz+o-a.length=i*sz+o by rw [h1,Nat.succ_mul];omega,show (i+1)*sz+o+qs.length-a.length=i*sz+o+qs.length by rw [h1,Nat.succ_mul];omega]
  simp
theorem LD {t:TypeId} {x y:Operand} {sz j i q m:Nat} {T:TypeId} {rows Af:List (List Pr)} {row qs:List Pr} {v:Value} (hg:o.guard=none) (ho:o.op= .store t x y) (hx:VL E x (gb sz v i q)) (hy:VL E y (DY qs)) (hz:BJ P t=some m) (hm:qs.length=m)
  (hl:∀r∈rows,r.length=sz) (hi:rows[i]? =some row) (hq:q+m≤sz) (hps:rows.set i (row.take q++qs++row.drop (q+m))=Af):Du P M0 w0 S n j (SR.c (BA T sz rows v)) (SR.c (BA T sz Af v)) o E any:=by
 refine ⟨hg,fun M w a rs hsz he hI hj=> ?_⟩
 obtain ⟨a0,m0,c0,ZC,h1⟩:=hx.ev he (show x∈o.op.operands.toList by simp [ho,Op.operands])
 obtain ⟨h2,h3⟩:=hy.ev he (show y∈o.op.operands.toList by simp [ho,Op.operands])
 have hj':rs[j]? =some (BA T sz rows v):=hj
 have hjl:=CD hj'
 rcases (hI.hold _ (List.mem_of_getElem? hj')).1 with ⟨rfl,A,hv⟩|⟨b,cap,spare,hv,hnc,hcm,hsp,SL⟩
 · simp at hi
 ·
  subst hv
  injection ZC with e1 e2 e3
  injection e1 with e1
  subst e1
  have hC:=hI.CZ (r':=AD true b T (rows.flatten++spare.map is)) hj' rfl rfl SL
  have ga:(rs.set j (AD true b T (rows.flatten++spare.map is)))[j]? =some (AD true b T (rows.flatten++spare.map is)):=List.getElem?_set_self hjl
  obtain ⟨_,cs,h4,h5,h6⟩:=SL
  have bZ:=h5.length
  have aW:=h2.length
  have Dn:=CD hi
  have hfl:=Bt hl
  rw [List.length_append,hfl,List.length_map] at bZ
  have hle:(i+1)*sz≤rows.length*sz:=Nat.mul_le_mul_right sz Dn
  rw [Nat.succ_mul] at hle
  have hcells:(a.eval y).cells.size=m:=by rw [←hm,←aW];simp
  have hrun:(storeCells ((⟨b,0,none⟩:Addr).add (i*sz+q)) (a.eval y).cells.toList 0).run P w= .ok () (w.setRow b (cs.take (i*sz+q)++(a.eval y).cells.toList++cs.drop (i*sz+q+m)).toArray):=by
   have:=run_storeCells_at (P:=P) b (i*sz+q) T (a.eval y).cells.toList 0 cs.toArray w h4 (by simp;omega) h3
   rw [EU,Nat.zero_add]
   simpa [hcells] using this
  have DO:(execOp a.eval o).run P w= .ok .skip (w.setRow b (cs.take (i*sz+q)++(a.eval y).cells.toList++cs.drop (i*sz+q+m)).toArray):=by
   simp [execOp,ho,h1,Instr.storeAt,Instr.sureAddr,storeVar,B1 hz,hcells,hrun]
  rw [DO]
  have hfs:=Of (S:=spare.map is) hl hi (o:=q) (qs:=qs) (by omega)
  rw [hm,hps] at hfs
  obtain ⟨h7, h8⟩ := A1.write (qs := Af.flatten ++ spare.map is) (cs := cs.take (i * sz + q) ++ (a.eval y).cells.toList ++ cs.drop (i * sz + q + m)) hC ga (by rw [← hfs]; exact (((h5.take (i * sz + q)).app h2)).app (h5.drop (i * sz + q + m)))
   (fun c hc=>by
    simp only [List.mem_append] at hc
    rcases hc with (hc|hc)|hc
    · exact h6 c (List.mem_of_mem_take hc)
    · exact h3 c hc
    · exact h6 c (List.mem_of_mem_drop hc))
  rw [List.set_set] at h7
  refine ⟨M,trivial,h8,?_⟩
  have hlen:Af.length=rows.length:=by rw [←hps,List.length_set]
  have h9:=h7.CZ (r':=BA T sz Af (.slice (some ⟨b,0,none⟩) rows.length (cap+1))) (List.getElem?_set_self hjl) rfl rfl (.inr ⟨b,cap,spare,by rw [hlen],by rw [hlen];exact hnc,hcm,by rw [hlen];exact hsp,(h7.hold _ (List.mem_of_getElem? (List.getElem?_set_self hjl))).1⟩)
  rw [List.set_set] at h9
  exact h9
theorem A1.Yp:∀{l:List A0} {M:Av} {w:World},A1 M0 w0 S (l++rs) M w→A1 M0 w0 S rs M w
 |[],_,_,h=>h
 |_::l,_,_,h=>A1.Yp (l:=l) h.Kn
end
end Cp
