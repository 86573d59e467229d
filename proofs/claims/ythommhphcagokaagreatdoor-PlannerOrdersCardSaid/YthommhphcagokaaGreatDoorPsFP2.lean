/-
  Part 2 of the texts that prove this claim, merged.
-/
import Derived.Laws.MakeOwn
import Derived.Test.YthommhphcagokaaGreatDoorProg
import Derived.KernelRfl
import Derived.Lib.ConvBytes
import Derived.Lib.Bytealg
import Derived.Laws.StructEq
import Derived.Laws.Externs
import Derived.Lib.AtoiErrMem
import Derived.Laws.IdiomRangeMap
import Derived.Sort.LotA
import Derived.Sort.LotB
import Derived.Sort.LotC
import Derived.Lib.AppendZeros
import Derived.Lib.AppendZerosOnto
import Derived.Test.YthommhphcagokaaGreatDoorPsFP1
set_option linter.all false
set_option maxRecDepth 40000
set_option maxHeartbeats 16000000
namespace Cp
open Go Go.RowKit Go.Great
variable{a:Act}{ops:Array Oper}{M:Av}{new:Bool}{l:List Int}{ps qs:List Pr}{j:Nat}{o:Oper}{x:Operand}{p:Pr}{T:TypeId}{v:Value}{w:World}
section
variable{P:Program}{L:Lg P}{n:Fm}{fz:Nat}{E:Env}{I:Cj}{Q:Exit->Act->World->Prop}
theorem Tr.GD{α0:Type}(K:Env)(hK:C6 E K)(F:α0->Env)(Ii:α0->Cj)(C:α0->Prop)(μ:α0->Nat){c:Code}(LD:α0)  (h0:C LD)(hs:C6 E (F LD))(hI:∀M w,I.h M w->(Ii LD).h M w)
  (round:∀x0,C x0->Tr L n (F x0++K) (Ii x0) c (Exit.then (fun a w=>∃Ea,(C Ea/\μ Ea<μ x0)/\St n (F Ea++K) (Ii Ea) a w) Q)):Tr L n E I (.loop c) Q:=
 Tr.O_ K hK (fun y:α0=>F y) (fun y=>Ii y) (fun y=>C y) (fun y=>μ y) LD h0 hs hI fun y hy=>
  Tr.post (round y hy) fun e a w h=>by
   cases e<;>first|exact h|(obtain⟨Ea,h1,h2⟩:=h;exact⟨Ea,h1,h2⟩)
theorem Fin.ES{α0:Type}{E1:α0->Env}{I1:α0->Cj}{C:α0->Prop}(x0:α0)  (hC:C x0)(hs:C6 E (E1 x0))(hI:∀M w,I.h M w->(I1 x0).h M w):
  Fin n E I (Exit.then (fun a w=>∃Ea,C Ea/\St n (E1 Ea) (I1 Ea) a w) Q) .normal:=fun _ _ hst=>⟨x0,hC,hst.sub hs hI⟩
theorem Tr.Wk{α0:Type}(K:Env)(hK:C6 E K)(F:α0->Value->Env)(Ii:α0->Value->Cj)(C:α0->Prop)(μ:α0->Nat){c:Code}(LD:α0)(Ys:Value)(h0:C LD)(hs:C6 E (F LD Ys))(hI:∀M w,I.h M w->(Ii LD Ys).h M w)
  (round:∀x0 v0,C x0->Tr L n (F x0 v0++K) (Ii x0 v0) c (Exit.then (fun a w=>∃Ea L8,(C Ea/\μ Ea<μ x0)/\St n (F Ea L8++K) (Ii Ea L8) a w) Q)):Tr L n E I (.loop c) Q:=
 Tr.O_ K hK (fun y:α0×Value=>F y.1 y.2) (fun y=>Ii y.1 y.2) (fun y=>C y.1) (fun y=>μ y.1) (LD,Ys) h0 hs hI fun y hy=>
  Tr.post (round y.1 y.2 hy) fun e a w h=>by
   cases e<;>first|exact h|(obtain⟨Ea,L8,h1,h2⟩:=h;exact⟨(Ea,L8),h1,h2⟩)
theorem Fin.bg{α0:Type}{E1:α0->Value->Env}{I1:α0->Value->Cj}{C:α0->Prop}(x0:α0)(v0:Value)(hC:C x0)(hs:C6 E (E1 x0 v0))(hI:∀M w,I.h M w->(I1 x0 v0).h M w):
  Fin n E I (Exit.then (fun a w=>∃Ea L8,C Ea/\St n (E1 Ea L8) (I1 Ea L8) a w) Q) .normal:=fun _ _ hst=>⟨x0,v0,hC,hst.sub hs hI⟩
theorem Tr.GF{α0 α1:Type}(K:Env)(hK:C6 E K)(F:α0->α1->Env)(Ii:α0->α1->Cj)(C:α0->α1->Prop)(μ:α0->α1->Nat){c:Code}(LD:α0)(QE:α1)  (h0:C LD QE)(hs:C6 E (F LD QE))(hI:∀M w,I.h M w->(Ii LD QE).h M w)
  (round:∀x0 x1,C x0 x1->Tr L n (F x0 x1++K) (Ii x0 x1) c (Exit.then (fun a w=>∃Ea Gv,(C Ea Gv/\μ Ea Gv<μ x0 x1)/\St n (F Ea Gv++K) (Ii Ea Gv) a w) Q)):Tr L n E I (.loop c) Q:=
 Tr.O_ K hK (fun y:α0×α1=>F y.1 y.2) (fun y=>Ii y.1 y.2) (fun y=>C y.1 y.2) (fun y=>μ y.1 y.2) (LD,QE) h0 hs hI fun y hy=>
  Tr.post (round y.1 y.2 hy) fun e a w h=>by
   cases e<;>first|exact h|(obtain⟨Ea,Gv,h1,h2⟩:=h;exact⟨(Ea,Gv),h1,h2⟩)
theorem Fin.Gw{α0 α1:Type}{E1:α0->α1->Env}{I1:α0->α1->Cj}{C:α0->α1->Prop}(x0:α0)(x1:α1)  (hC:C x0 x1)(hs:C6 E (E1 x0 x1))(hI:∀M w,I.h M w->(I1 x0 x1).h M w):
  Fin n E I (Exit.then (fun a w=>∃Ea Gv,C Ea Gv/\St n (E1 Ea Gv) (I1 Ea Gv) a w) Q) .normal:=fun _ _ hst=>⟨x0,x1,hC,hst.sub hs hI⟩
theorem Tr.RL{α0 α1:Type}(K:Env)(hK:C6 E K)(F:α0->α1->Value->Env)(Ii:α0->α1->Value->Cj)(C:α0->α1->Prop)(μ:α0->α1->Nat){c:Code}(LD:α0)(QE:α1)(Ys:Value)(h0:C LD QE)(hs:C6 E (F LD QE Ys))(hI:∀M w,I.h M w->(Ii LD QE Ys).h M w)
  (round:∀x0 x1 v0,C x0 x1->Tr L n (F x0 x1 v0++K) (Ii x0 x1 v0) c (Exit.then (fun a w=>∃Ea Gv L8,(C Ea Gv/\μ Ea Gv<μ x0 x1)/\St n (F Ea Gv L8++K) (Ii Ea Gv L8) a w) Q)):Tr L n E I (.loop c) Q:=
 Tr.O_ K hK (fun y:α0×α1×Value=>F y.1 y.2.1 y.2.2) (fun y=>Ii y.1 y.2.1 y.2.2) (fun y=>C y.1 y.2.1) (fun y=>μ y.1 y.2.1) (LD,QE,Ys) h0 hs hI fun y hy=>
  Tr.post (round y.1 y.2.1 y.2.2 hy) fun e a w h=>by
   cases e<;>first|exact h|(obtain⟨Ea,Gv,L8,h1,h2⟩:=h;exact⟨(Ea,Gv,L8),h1,h2⟩)
theorem Fin.EJ{α0 α1:Type}{E1:α0->α1->Value->Env}{I1:α0->α1->Value->Cj}{C:α0->α1->Prop}(x0:α0)(x1:α1)(v0:Value)(hC:C x0 x1)(hs:C6 E (E1 x0 x1 v0))(hI:∀M w,I.h M w->(I1 x0 x1 v0).h M w):
  Fin n E I (Exit.then (fun a w=>∃Ea Gv L8,C Ea Gv/\St n (E1 Ea Gv L8) (I1 Ea Gv L8) a w) Q) .normal:=fun _ _ hst=>⟨x0,x1,v0,hC,hst.sub hs hI⟩
theorem Tr.RM{α0 α1 α2:Type}(K:Env)(hK:C6 E K)(F:α0->α1->α2->Env)(Ii:α0->α1->α2->Cj)(C:α0->α1->α2->Prop)(μ:α0->α1->α2->Nat){c:Code}(LD:α0)(QE:α1)(bh:α2)  (h0:C LD QE bh)(hs:C6 E (F LD QE bh))(hI:∀M w,I.h M w->(Ii LD QE bh).h M w)
  (round:∀x0 x1 x2,C x0 x1 x2->Tr L n (F x0 x1 x2++K) (Ii x0 x1 x2) c (Exit.then (fun a w=>∃Ea Gv Li,(C Ea Gv Li/\μ Ea Gv Li<μ x0 x1 x2)/\St n (F Ea Gv Li++K) (Ii Ea Gv Li) a w) Q)):Tr L n E I (.loop c) Q:=
 Tr.O_ K hK (fun y:α0×α1×α2=>F y.1 y.2.1 y.2.2) (fun y=>Ii y.1 y.2.1 y.2.2) (fun y=>C y.1 y.2.1 y.2.2) (fun y=>μ y.1 y.2.1 y.2.2) (LD,QE,bh) h0 hs hI fun y hy=>
  Tr.post (round y.1 y.2.1 y.2.2 hy) fun e a w h=>by
   cases e<;>first|exact h|(obtain⟨Ea,Gv,Li,h1,h2⟩:=h;exact⟨(Ea,Gv,Li),h1,h2⟩)
theorem Fin.Gx{α0 α1 α2:Type}{E1:α0->α1->α2->Env}{I1:α0->α1->α2->Cj}{C:α0->α1->α2->Prop}(x0:α0)(x1:α1)(x2:α2)  (hC:C x0 x1 x2)(hs:C6 E (E1 x0 x1 x2))(hI:∀M w,I.h M w->(I1 x0 x1 x2).h M w):
  Fin n E I (Exit.then (fun a w=>∃Ea Gv Li,C Ea Gv Li/\St n (E1 Ea Gv Li) (I1 Ea Gv Li) a w) Q) .normal:=fun _ _ hst=>⟨x0,x1,x2,hC,hst.sub hs hI⟩
theorem Tr.Iy{α0 α1 α2:Type}(K:Env)(hK:C6 E K)(F:α0->α1->α2->Value->Env)(Ii:α0->α1->α2->Value->Cj)(C:α0->α1->α2->Prop)(μ:α0->α1->α2->Nat){c:Code}(LD:α0)(QE:α1)(bh:α2)(Ys:Value)(h0:C LD QE bh)(hs:C6 E (F LD QE bh Ys))(hI:∀M w,I.h M w->(Ii LD QE bh Ys).h M w)
  (round:∀x0 x1 x2 v0,C x0 x1 x2->Tr L n (F x0 x1 x2 v0++K) (Ii x0 x1 x2 v0) c (Exit.then (fun a w=>∃Ea Gv Li L8,(C Ea Gv Li/\μ Ea Gv Li<μ x0 x1 x2)/\St n (F Ea Gv Li L8++K) (Ii Ea Gv Li L8) a w) Q)):Tr L n E I (.loop c) Q:=
 Tr.O_ K hK (fun y:α0×α1×α2×Value=>F y.1 y.2.1 y.2.2.1 y.2.2.2) (fun y=>Ii y.1 y.2.1 y.2.2.1 y.2.2.2) (fun y=>C y.1 y.2.1 y.2.2.1) (fun y=>μ y.1 y.2.1 y.2.2.1) (LD,QE,bh,Ys) h0 hs hI fun y hy=>
  Tr.post (round y.1 y.2.1 y.2.2.1 y.2.2.2 hy) fun e a w h=>by
   cases e<;>first|exact h|(obtain⟨Ea,Gv,Li,L8,h1,h2⟩:=h;exact⟨(Ea,Gv,Li,L8),h1,h2⟩)
theorem Fin.FW{α0 α1 α2:Type}{E1:α0->α1->α2->Value->Env}{I1:α0->α1->α2->Value->Cj}{C:α0->α1->α2->Prop}(x0:α0)(x1:α1)(x2:α2)(v0:Value)(hC:C x0 x1 x2)(hs:C6 E (E1 x0 x1 x2 v0))(hI:∀M w,I.h M w->(I1 x0 x1 x2 v0).h M w):
  Fin n E I (Exit.then (fun a w=>∃Ea Gv Li L8,C Ea Gv Li/\St n (E1 Ea Gv Li L8) (I1 Ea Gv Li L8) a w) Q) .normal:=fun _ _ hst=>⟨x0,x1,x2,v0,hC,hst.sub hs hI⟩
theorem Tr.j0{α0 α1 α2 α3:Type}(K:Env)(hK:C6 E K)(F:α0->α1->α2->α3->Value->Env)(Ii:α0->α1->α2->α3->Value->Cj)(C:α0->α1->α2->α3->Prop)(μ:α0->α1->α2->α3->Nat){c:Code}(LD:α0)(QE:α1)(bh:α2)(x3s:α3)(Ys:Value)(h0:C LD QE bh x3s)(hs:C6 E (F LD QE bh x3s Ys))(hI:∀M w,I.h M w->(Ii LD QE bh x3s Ys).h M w)
  (round:∀x0 x1 x2 x3 v0,C x0 x1 x2 x3->Tr L n (F x0 x1 x2 x3 v0++K) (Ii x0 x1 x2 x3 v0) c (Exit.then (fun a w=>∃Ea Gv Li pN L8,(C Ea Gv Li pN/\μ Ea Gv Li pN<μ x0 x1 x2 x3)/\St n (F Ea Gv Li pN L8++K) (Ii Ea Gv Li pN L8) a w) Q)):Tr L n E I (.loop c) Q:=
 Tr.O_ K hK (fun y:α0×α1×α2×α3×Value=>F y.1 y.2.1 y.2.2.1 y.2.2.2.1 y.2.2.2.2) (fun y=>Ii y.1 y.2.1 y.2.2.1 y.2.2.2.1 y.2.2.2.2) (fun y=>C y.1 y.2.1 y.2.2.1 y.2.2.2.1) (fun y=>μ y.1 y.2.1 y.2.2.1 y.2.2.2.1) (LD,QE,bh,x3s,Ys) h0 hs hI fun y hy=>
  Tr.post (round y.1 y.2.1 y.2.2.1 y.2.2.2.1 y.2.2.2.2 hy) fun e a w h=>by
   cases e<;>first|exact h|(obtain⟨Ea,Gv,Li,pN,L8,h1,h2⟩:=h;exact⟨(Ea,Gv,Li,pN,L8),h1,h2⟩)
theorem Fin.qE{α0 α1 α2 α3:Type}{E1:α0->α1->α2->α3->Value->Env}{I1:α0->α1->α2->α3->Value->Cj}{C:α0->α1->α2->α3->Prop}(x0:α0)(x1:α1)(x2:α2)(x3:α3)(v0:Value)(hC:C x0 x1 x2 x3)(hs:C6 E (E1 x0 x1 x2 x3 v0))(hI:∀M w,I.h M w->(I1 x0 x1 x2 x3 v0).h M w):
  Fin n E I (Exit.then (fun a w=>∃Ea Gv Li pN L8,C Ea Gv Li pN/\St n (E1 Ea Gv Li pN L8) (I1 Ea Gv Li pN L8) a w) Q) .normal:=fun _ _ hst=>⟨x0,x1,x2,x3,v0,hC,hst.sub hs hI⟩
end
structure DS where
 l:List Int
 at_:Nat
 h:at_<=l.length
 h2:l.length<=1000000000
def DS.val(s:DS)(n:Int):Int:=match s.l[s.at_]? with|some x=>x % n|none=>0
def DS.C1(s:DS):DS:=if h:s.at_<s.l.length then⟨s.l,s.at_+1,h,s.h2⟩else s
theorem DS.D_(s:DS){n:Int}(hn:1<=n):0<=s.val n/\s.val n<n:=by
 unfold DS.val
 split
 .exact⟨Int.emod_nonneg _ AA,Int.emod_lt_of_pos _ AA⟩
 .omega
theorem DS.qF{s:DS}(h:s.l.length<=s.at_)(n:Int):s.val n=0:=by
 unfold DS.val;rw[List.getElem?_eq_none h]
theorem DS.qG{s:DS}(h:s.l.length<=s.at_):s.C1=s:=by
 unfold DS.C1;rw[dif_neg AA]
theorem DS.wO{s:DS}{x:Int}(h:s.l[s.at_]? =some x)(n:Int):s.val n=x % n:=by
 unfold DS.val;rw[h]
theorem DS.wP{s:DS}(h:s.at_<s.l.length):s.C1=⟨s.l,s.at_+1,h,s.h2⟩:=by
 unfold DS.C1;rw[dif_pos h]
def OJ(s:DS):List Pr:=[slice 1 (s.l.map fun n=>[int n]),int ((s.at_:Nat):Int)]
def Wl(T:TypeId)(b:Nat)(s:DS):Ay:=AE true b T (OJ s)
def L9(T:TypeId)(b:Nat):Ay:=NF true b T (fun _:DS=>True) OJ
def DS.of(s:DS)(l:List Int):Int:=(l[(s.val l.length).toNat]?).getD 0
theorem DS.U1(s:DS)(h:l≠[]):s.of l∈l:=by
 have h0:1<=(l.length:Int):=by
  have:=List.length_pos_iff.2 h;omega
 have:=s.D_ h0;unfold DS.of;rw[List.getElem?_eq_getElem AA];exact List.getElem_mem _
section
variable{P:Program}{L:Lg P}{n:Fm}{fz:Nat}{E:Env}{M0:Av}{w0:World}{S:Nat->Prop}{rs:List Ay}
theorem Tr.bp{Q:Exit->Act->World->Prop}{c:Code}(i:Nat){b:Nat}(hi:rs[i]? =some (L9 T b))(k:∀s,Tr L n E (Hp M0 w0 S (rs.set i (Wl T b s))) c Q):Tr L n E (Hp M0 w0 S rs) c Q:=
 Tr.ABB i hi fun s _=>k s
theorem Fin.bp{Q:Exit->Act->World->Prop}{e:Exit}(i:Nat){b:Nat}(hi:rs[i]? =some (L9 T b))(k:∀s,Fin n E (Hp M0 w0 S (rs.set i (Wl T b s))) Q e):Fin n E (Hp M0 w0 S rs) Q e:=by
 rintro a w ⟨M,h1,h2,h3,h4⟩;have h4:BD M0 w0 S rs M w:=h4;obtain⟨x,hx,hh⟩:=(h4.hold _ (List.mem_of_getElem? hi)).1;exact k x a w ⟨M,h1,h2,h3,h4.DF hi rfl rfl hh⟩
theorem Fin.L_{Q:Exit->Act->World->Prop}{e:Exit}(i:Nat){b:Nat}(s:DS)(hi:rs[i]? =some (AE true b T ps))(hp:ps=OJ s)(k:Fin n E (Hp M0 w0 S (rs.set i (L9 T b))) Q e):Fin n E (Hp M0 w0 S rs) Q e:=
 Fin.OI i (fun _=>True) OJ s trivial hi hp k
theorem Tr.L_{Q:Exit->Act->World->Prop}{c:Code}(i:Nat){b:Nat}(s:DS)(hi:rs[i]? =some (AE true b T ps))(hp:ps=OJ s)(k:Tr L n E (Hp M0 w0 S (rs.set i (L9 T b))) c Q):Tr L n E (Hp M0 w0 S rs) c Q:=
 Tr.OI i (fun _=>True) OJ s trivial hi hp k
theorem TO.iq{l:List Oper}{Q:Exit->Act->World->Prop}(s j:Nat){f:Value->Ay}(g:Nat->Ay)(hs:E.lookup s=some (Aj v (Cp.ex fun b=>ptr b 0)))(hi:rs[j]? =some (f v))(hf:∀b,f (.pointer (some ⟨b,0,none⟩))=g b)(k:∀b,TO P n ops l ((s,ptr b 0)::E) (Hp M0 w0 S (rs.set j (g b))) Q):TO P n ops l E (Hp M0 w0 S rs) Q:=by
 intro k0 hl a w hst;obtain⟨M,h1,h2,he,h4⟩:=hst;obtain⟨h5,b,h6⟩:=he s _ hs;have hv:v= .pointer (some ⟨b,0,none⟩):=by rw[←h5];exact h6
 have hj:rs.set j (g b)=rs:=by
  have hjl:j<rs.length:=by rcases Nat.lt_or_ge j rs.length with h|h;exact h;rw[List.getElem?_eq_none h]at hi;cases hi
  rw[←hf b,←hv];rw[List.getElem?_eq_getElem hjl]at hi;simp at hi;rw[←hi,List.set_getElem_self]
 refine k b k0 hl a w ⟨M,h1,h2,?_,by rw[hj];exact h4⟩;intro t q hq;simp only[List.lookup]at hq
 by_cases ht:t=s
 .subst ht;simp at hq;subst hq;exact h6
 .exact N_
def KI(r:ResultVar)(a:Act):Sem Value:=match r with| .tmp t=>pure (a.tmps.getD t undef)| .cell c t=>do loadVar t (←asAddr (a.tmps.getD c undef))
def AL(P:Program)(E:Env)(rs:List Ay)(r:ResultVar)(p:Pr):Prop:=∀(M:Av) (w:World) (a:Act),Fo M w E a->(∀q∈rs,q.h M w)->∃v,(KI r a).run P w= .ok v w/\p.h M w v
theorem AL.tmp{t:Tmp}{q:Pr}(h:E.lookup t=some q)(hl:Pr.le q p):AL P E rs (.tmp t) p:=fun _ _ _ he _=>⟨_,rfl,hl _ _ _ (he _ _ h)⟩
theorem AL.cell(i:Nat){c:Tmp}{t:TypeId}{b m:Nat}(h:E.lookup c=some (ptr b 0))(hi:rs[i]? =some (AE new b T ps))(ht:FG P t=true)(hz:Aw P t=some m)(hm:ps.length=m)(hl:Pr.le (agg ps) p):AL P E rs (.cell c t) p:=by
 intro M w a he hr;obtain⟨v,h1,h2⟩:=jv ht hz hm (hr _ (List.mem_of_getElem? hi));refine⟨v,?_,hl _ _ _ h2⟩;have hc:a.tmps.getD c undef= .pointer (some ⟨b,0,none⟩):=he _ _ h;unfold KI;simp only[hc,asAddr]
 simpa[Sem.run_bind]using h1
theorem JX(g:Func)(a:Act):results g a.tmps=(do let vs ←g.results.mapM (fun r=>KI r a);pure (if h:vs.size=1 then vs[0]else .tuple vs)):=by
 have:(fun r:ResultVar=>KI r a)=(fun| .tmp t=>pure (a.tmps.getD t undef)| .cell c t=>do loadVar t (←asAddr (a.tmps.getD c undef))):=by
  funext r;cases r<;>rfl
 rw[this];rfl
theorem results1{g:Func}{r:ResultVar}(hr:g.results= #[r])(h:(KI r a).run P w= .ok v w):(results g a.tmps).run P w= .ok v w:=by
 rw[JX,hr];simp[Sem.run_bind,h]
theorem results2{g:Func}{r r':ResultVar}{v':Value}(hr:g.results= #[r,r'])(h:(KI r a).run P w= .ok v w)(h':(KI r' a).run P w= .ok v' w):(results g a.tmps).run P w= .ok (.tuple #[v,v']) w:=by
 rw[JX,hr];simp[Sem.run_bind,h,h']
theorem results3{g:Func}{r r' r'':ResultVar}{v' v'':Value}(hr:g.results= #[r,r',r''])(h:(KI r a).run P w= .ok v w)(h':(KI r' a).run P w= .ok v' w)(h'':(KI r'' a).run P w= .ok v'' w):(results g a.tmps).run P w= .ok (.tuple #[v,v',v'']) w:=by
 rw[JX,hr];simp[Sem.run_bind,h,h',h'']
theorem BD.U2{M:Av}{w:World}:∀{pre:List Ay},BD M0 w0 S (pre++rs) M w->BD M0 w0 S rs M w
 |[],h=>h
 |_::_,h=>BD.U2 h.Hg
variable{g:Func}{M1:Av}{w1:World}
theorem Fin.B4{r:ResultVar}{q:Pr}(hr:g.results= #[r])(h:AL P E rs r q)(hl:Pr.le q p):Fin ⟨fz,[]⟩ E (Hp M0 w0 Ju rs) (bodyPost P g (Sd M0 w0 p)) .ret:=by
 rintro a w ⟨M,_,hd,he,hi⟩;obtain⟨v,hv,hp⟩:=h M w a he (fun q hq=>(hi.hold q hq).1);obtain⟨h1,h2⟩:=CL.Eo M0 w0 M w hi;exact⟨hd,v,results1 hr hv,_,rfl,p.st _ _ _ _ _ (Ext.less h1) (hl _ _ _ hp),h2⟩
theorem Fin.Bf{r r':ResultVar}{q q':Pr}(hr:g.results= #[r,r'])(h:AL P E rs r q)(h':AL P E rs r' q')(hl:Pr.le (EB [q,q']) p):Fin ⟨fz,[]⟩ E (Hp M0 w0 Ju rs) (bodyPost P g (Sd M0 w0 p)) .ret:=by
 rintro a w ⟨M,_,hd,he,hi⟩;obtain⟨v,hv,hp⟩:=h M w a he (fun q hq=>(hi.hold q hq).1);obtain⟨v',hv',hp'⟩:=h' M w a he (fun q hq=>(hi.hold q hq).1);obtain⟨h1,h2⟩:=CL.Eo M0 w0 M w hi;exact⟨hd,_,results2 hr hv hv',_,rfl,p.st _ _ _ _ _ (Ext.less h1) (hl _ _ _ ⟨[_,_],rfl,hp,hp',trivial⟩),h2⟩
theorem Fin.EY{r r' r'':ResultVar}{q q' q'':Pr}(hr:g.results= #[r,r',r''])(h:AL P E rs r q)(h':AL P E rs r' q')(h'':AL P E rs r'' q'')(hl:Pr.le (EB [q,q',q'']) p):Fin ⟨fz,[]⟩ E (Hp M0 w0 Ju rs) (bodyPost P g (Sd M0 w0 p)) .ret:=by
 rintro a w ⟨M,_,hd,he,hi⟩;obtain⟨v,hv,hp⟩:=h M w a he (fun q hq=>(hi.hold q hq).1);obtain⟨v',hv',hp'⟩:=h' M w a he (fun q hq=>(hi.hold q hq).1);obtain⟨v'',AFM,AFN⟩:=h'' M w a he (fun q hq=>(hi.hold q hq).1);obtain⟨h1,h2⟩:=CL.Eo M0 w0 M w hi;exact⟨hd,_,results3 hr hv hv' AFM,_,rfl,p.st _ _ _ _ _ (Ext.less h1) (hl _ _ _ ⟨[_,_,_],rfl,hp,hp',AFN,trivial⟩),h2⟩
theorem Fin.HD(pre:List Ay){r:ResultVar}{R:Ay}{R':Value->Ay}{q:Pr}(hr:g.results= #[r])(h:AL P E (pre++R::Ao M1 w1::rs) r q)(hl:Pr.le q p)(hR:∀M w v,q.h M w v->R' v=R):
  Fin ⟨fz,[]⟩ E (Hp M0 w0 S (pre++R::Ao M1 w1::rs)) (bodyPost P g (RI M0 w0 S rs M1 w1 p R')) .ret:=by
 rintro a w ⟨M,_,hd,he,hi⟩;obtain⟨v,hv,hp⟩:=h M w a he (fun q hq=>(hi.hold q hq).1);obtain⟨h1,h2⟩:=qC (BD.U2 hi);exact⟨hd,v,results1 hr hv,_,M,rfl,hl _ _ _ hp,h1,by rw[hR _ _ _ hp];exact h2⟩
theorem Fin.ABC(pre:List Ay){r r':ResultVar}{R:Ay}{q q':Pr}(hr:g.results= #[r,r'])(h:AL P E (pre++R::Ao M1 w1::rs) r q)(h':AL P E (pre++R::Ao M1 w1::rs) r' q')(hl:Pr.le (EB [q,q']) p):
  Fin ⟨fz,[]⟩ E (Hp M0 w0 S (pre++R::Ao M1 w1::rs)) (bodyPost P g (RI M0 w0 S rs M1 w1 p (fun _=>R))) .ret:=by
 rintro a w ⟨M,_,hd,he,hi⟩;obtain⟨v,hv,hp⟩:=h M w a he (fun q hq=>(hi.hold q hq).1);obtain⟨v',hv',hp'⟩:=h' M w a he (fun q hq=>(hi.hold q hq).1);obtain⟨h1,h2⟩:=qC (BD.U2 hi);exact⟨hd,_,results2 hr hv hv',_,M,rfl,hl _ _ _ ⟨[_,_],rfl,hp,hp',trivial⟩,h1,h2⟩
theorem Co{α:Type}{p:α->Pr}{q:Pr}(x:α)(h:Pr.le q (p x)):Pr.le q (Cp.ex p):=fun M w v hv=>⟨x,h M w v hv⟩
theorem EG{φ:Prop}{q:Pr}(hφ:φ)(h:Pr.le q p):Pr.le q (fact φ p):=fun M w v hv=>⟨hφ,h M w v hv⟩
end
section
variable{P:Program}{L:Lg P}{n:Fm}{fz:Nat}{E:Env}{M0:Av}{w0:World}{S:Nat->Prop}{rs:List SR}{o:Oper}
theorem EL{t:TypeId}{q:Tmp}{b off:Nat}[One p](hg:o.guard=none)(hd:o.dst=none)(ho:o.op= .store t x (.tmp q))(hx:VL E x (ptr b off))(hy:E.lookup q=some p)(hz:Aw P t=some 1)(hl:off+1<=ps.length):D8 P M0 w0 S n j (SR.c (AE new b T ps)) ⟨q,fun v=>AE new b T (ps.take off++[Aj v p]++ps.drop (off+1))⟩ o E any:=by
 refine⟨hg,fun M w a rs hsz he hI hj=>?_⟩;have h1:a.eval x= .pointer (some ⟨b,off,none⟩):=hx.ev he Am;have hv:VL E (.tmp q) p:=⟨_,hy,Pr.le_refl _⟩;have hp:=hv.ev he (show(Operand.tmp q)∈o.op.operands.toList by simp[ho,Op.operands]);obtain⟨h2,h3⟩:=(VL.le hv (AV p)).ev he (show(Operand.tmp q)∈o.op.operands.toList by simp[ho,Op.operands]);obtain⟨⟨_,cs,h4,h5,h6⟩,_⟩:=hI.hold _ (List.mem_of_getElem? hj);have pK:=h5.length;have h2l:=h2.length;have hone:(a.eval (.tmp q)).cells= #[a.eval (.tmp q)]:=(One.one (p:=p) M w _ hp).1;have h2':HL M w [Aj (a.eval (.tmp q)) p] (a.eval (.tmp q)).cells.toList:=by rw[hone];exact⟨⟨rfl,hp⟩,trivial⟩
 have hcells:(a.eval (.tmp q)).cells.size=1:=by rw[hone];rfl
 have hrun:(storeCells ⟨b,off,none⟩ (a.eval (.tmp q)).cells.toList 0).run P w= .ok () (w.setRow b (cs.take off++(a.eval (.tmp q)).cells.toList++cs.drop (off+1)).toArray):=by
  have:=run_storeCells_at (P:=P) b off T (a.eval (.tmp q)).cells.toList 0 cs.toArray w h4 (by simp[hcells];omega) h3
  simpa[hcells]using this
 have DV:(execOp a.eval o).run P w= .ok .skip (w.setRow b (cs.take off++(a.eval (.tmp q)).cells.toList++cs.drop (off+1)).toArray):=by
  simp[execOp,ho,h1,Instr.storeAt,Instr.sureAddr,storeVar,Bz hz,hcells,hrun]
 rw[DV]
 obtain⟨h7, h8⟩ := BD.write (qs := ps.take off ++ [Aj (a.eval (.tmp q)) p] ++ ps.drop (off + 1)) (cs := cs.take off ++ (a.eval (.tmp q)).cells.toList ++ cs.drop (off + 1)) hI hj ((((h5.take off).app h2')).app (h5.drop (off + 1)))
  (fun c hc=>by
   simp only[List.mem_append]at hc;rcases hc with(hc|hc)|hc
   .grind
   .exact h3 c hc
   .exact h6 c (List.mem_of_mem_drop hc))
 refine⟨M,trivial,h8,?_⟩;have hput:SR.at_ (a.put o.dst undef) ⟨q,fun v=>AE new b T (ps.take off++[Aj v p]++ps.drop (off+1))⟩=AE new b T (ps.take off++[Aj (a.eval (.tmp q)) p]++ps.drop (off+1)):=by rw[hd];rfl
 rw[hput];exact h7
theorem U3{s:Nat}{f:Value->Ay}(hR:rs[j]? =some ⟨s,f⟩)(a:Act):(rs.set j (SR.c (f (a.tmps.getD s undef)))).map (·.at_ a)=rs.map (·.at_ a):=by
 rw[List.map_set]
 apply List.ext_getElem?
 intro i;rw[List.getElem?_set]
 by_cases hij:j=i
 .
  subst hij;rw[if_pos rfl]
  split
  .rw[List.getElem?_map,hR];rfl
  .grind
 .rw[if_neg hij]
theorem BG.RN{Q:Exit->Act->World->Prop}(j i s:Nat){f g:Value->Ay}(hR:rs[j]? =some ⟨s,f⟩)(hR':rs[i]? =some ⟨s,g⟩)(hij:j≠i)(hs:E.lookup s=some p)(k:∀v,BG n M0 w0 S ((s,Aj v p)::E) ((rs.set j (SR.c (f v))).set i (SR.c (g v))) Q):BG n M0 w0 S E rs Q:=by
 rintro a w ⟨M,h1,h2,h3,h4⟩;refine k (a.tmps.getD s undef) a w ⟨M,h1,h2,?_,?_⟩
 .
  intro t q hq;simp only[List.lookup]at hq
  by_cases ht:t=s
  .exact aq
  .rw[show(t==s)=false by simpa using ht]at hq;exact h3 t q hq
 .rw[U3 (rs:=rs.set j (SR.c (f (a.tmps.getD s undef)))) (j:=i) (s:=s) (f:=g) (by rw[List.getElem?_set,if_neg hij];exact hR') a,U3 hR a];exact h4
end
section
variable{P:Program}{L:Lg P}{n:Fm}{fz:Nat}{E:Env}{M0:Av}{w0:World}{S:Nat->Prop}{rs:List Ay}
theorem St.Hx(j:Nat){b:Nat}(hi:rs[j]? =some (AE new b T ps))(h:Hh ps qs)(hs:St n E (Hp M0 w0 S rs) a w):St n E (Hp M0 w0 S (rs.set j (AE new b T qs))) a w:=by
 obtain⟨M,h1,h2,h3,h4⟩:=hs;have h4:BD M0 w0 S rs M w:=h4;obtain⟨h5,cs,h6,h7,h8⟩:=(h4.hold _ (List.mem_of_getElem? hi)).1;exact⟨M,h1,h2,h3,h4.DF hi rfl rfl ⟨h5,cs,h6,h.hl h7,h8⟩⟩
theorem Tr.Hx{Q:Exit->Act->World->Prop}{c:Code}(j:Nat){b:Nat}(qs:List Pr)(hi:rs[j]? =some (AE new b T ps))(h:Hh ps qs)(k:Tr L n E (Hp M0 w0 S (rs.set j (AE new b T qs))) c Q):Tr L n E (Hp M0 w0 S rs) c Q:=
 Tr.conv (fun _ _ hs=>hs.Hx j hi h) k
theorem Fin.Hx{Q:Exit->Act->World->Prop}{e:Exit}(j:Nat){b:Nat}(qs:List Pr)(hi:rs[j]? =some (AE new b T ps))(h:Hh ps qs)(k:Fin n E (Hp M0 w0 S (rs.set j (AE new b T qs))) Q e):Fin n E (Hp M0 w0 S rs) Q e:=
 Fin.conv (fun _ _ hs=>hs.Hx j hi h) k
end
section
variable{P:Program}{L:Lg P}{n:Fm}{fz:Nat}{E:Env}{M0:Av}{w0:World}{S:Nat->Prop}{rs:List Ay}
abbrev U4(m b:Nat):Value:= .slice (some ⟨b,0,none⟩) m m
theorem CX{I:Cj}{t e:TypeId}{y:Operand}{k:IntKind}{i:Int}{len cap sz b off:Nat}(ho:o.op= .indexAddr t x y)(ht:P.underlying t=some (.slice e))(hz:Aw P e=some sz)(hx:VL E x (is (.slice (some ⟨b,off,none⟩) len cap)))(hy:VL E y (is (.int k i)))(h0:0<=i)(hl:i<len):Af P I o E (ptr b (off+i.toNat*sz)):=
 Af.same fun M w a he _=>by
  have h1:a.eval x=_:=hx.ev he Am;have h5:a.eval y= .int k i:=hy.ev he Am;refine⟨_,?_,rfl⟩;simp[execOp,ho,h1,h5,Instr.indexAt,asIntOf,run_underlying ht,Bz hz,h0,hl,DE]
theorem Tr.perm{Q:Exit->Act->World->Prop}{c:Code}{rs':List Ay}(hp:rs.Perm rs')(k:Tr L n E (Hp M0 w0 S rs') c Q):Tr L n E (Hp M0 w0 S rs) c Q:=
 Tr.conv (fun _ _ ⟨M,h1,h2,h3,h4⟩=>⟨M,h1,h2,h3,BD.perm hp h4⟩) k
theorem Fin.perm{Q:Exit->Act->World->Prop}{ex:Exit}{rs':List Ay}(hp:rs.Perm rs')(k:Fin n E (Hp M0 w0 S rs') Q ex):Fin n E (Hp M0 w0 S rs) Q ex:=
 Fin.conv (fun _ _ ⟨M,h1,h2,h3,h4⟩=>⟨M,h1,h2,h3,BD.perm hp h4⟩) k
theorem BD.U5{b:Nat}(h4:BD M0 w0 S (AE true b T ps::rs) M w):∃M',BD M0 w0 S rs M' w/\Ext M w M' w/\Row M' w ⟨b,0,none⟩ 0 ps:=by
 obtain⟨⟨hm,cs,hh,hc,hone⟩,pJ⟩:=h4.hold _ (List.mem_cons_self ..);obtain⟨hlt,hnew⟩:=pJ b rfl;have hnew:w0.heap.size<=b:=by simpa[AE]using hnew
 have he:Ext M w (fun b' o=>M b' o/\b'≠b) w:=Ext.less fun _ _ h=>h.1;obtain⟨AFO,AFP⟩:=List.pairwise_cons.1 h4.nd;refine⟨fun b' o=>M b' o/\b'≠b,⟨h4.m0,fun b' o' hm'=>⟨h4.m b' o' hm',fun e=>?_⟩,h4.os,h4.tape,h4.output,h4.size,h4.block,fun b' o' hm'=>h4.bd b' o' hm'.1,fun r hr=>?_,AFP⟩,he,fun j p hp=>?_⟩
 .
  subst e;have:=h4.m0 _ _ hm';omega
 .
  obtain⟨h5,h6⟩:=h4.hold r (List.mem_cons_of_mem _ hr);exact⟨r.st _ _ _ _ he (fun b' hb'=>⟨rfl,fun o' hmo=>⟨hmo,fun e=>AFO r hr b rfl (by rw[←e];exact hb')⟩⟩) h5,h6⟩
 .
  obtain⟨u,hu,jk⟩:=hc.at_ j p hp;refine⟨u,?_,fun hx=>hx.2 rfl,hone u (List.mem_of_getElem? hu),p.st _ _ _ _ _ he jk⟩;rw[show Addr.add ⟨b,0,none⟩ (0+j)=⟨b,j,none⟩by unfold Addr.add;split<;>simp_all];simp[World.cell?,hh,hu]
end
end Cp
namespace Go.Proofs.YthommhphcagokaaGreatDoor
open Go Cp
theorem mixed:Tryz.prog.follows .mixedOrders=true:=by kernel_rfl
theorem sz1:Aw Tryz.prog 1=some 1:=by kernel_rfl
theorem z1:BZ Tryz.prog 1=some [.nilFunc]:=by kernel_rfl
theorem sz2:Aw Tryz.prog 2=some 1:=by kernel_rfl
theorem z2:BZ Tryz.prog 2=some [.int .i64 0]:=by kernel_rfl
theorem C4:Aw Tryz.prog 3=some 1:=by kernel_rfl
theorem DP:EC Tryz.prog 3=true:=by kernel_rfl
theorem RO:CW Tryz.prog 3=some 8:=by kernel_rfl
theorem zo3:([.int .i64 0]:List Value).all (·.oneCell')=true:=by kernel_rfl
theorem z3:BZ Tryz.prog 3=some [.int .i64 0]:=by kernel_rfl
theorem sz4:Aw Tryz.prog 4=some 1:=by kernel_rfl
theorem e9:EC Tryz.prog 4=true:=by kernel_rfl
theorem by4:CW Tryz.prog 4=some 1:=by kernel_rfl
theorem zo4:([.bool false]:List Value).all (·.oneCell')=true:=by kernel_rfl
theorem z4:BZ Tryz.prog 4=some [.bool false]:=by kernel_rfl
theorem Fq:Aw Tryz.prog 5=some 1:=by kernel_rfl
theorem qH:EC Tryz.prog 5=true:=by kernel_rfl
theorem Mo:CW Tryz.prog 5=some 1:=by kernel_rfl
theorem zo5:([.int .u8 0]:List Value).all (·.oneCell')=true:=by kernel_rfl
theorem z5:BZ Tryz.prog 5=some [.int .u8 0]:=by kernel_rfl
theorem z6:BZ Tryz.prog 6=some [.int .u8 0]:=by kernel_rfl
theorem Lj:Aw Tryz.prog 9=some 1:=by kernel_rfl
theorem OK:EC Tryz.prog 9=true:=by kernel_rfl
theorem by9:CW Tryz.prog 9=some 16:=by kernel_rfl
theorem zo9:([.string (ByteArray.mk #[])]:List Value).all (·.oneCell')=true:=by kernel_rfl
theorem z9:BZ Tryz.prog 9=some [.string (ByteArray.mk #[])]:=by kernel_rfl
theorem z12:BZ Tryz.prog 12=some [.int .u64 0]:=by kernel_rfl
theorem z13:BZ Tryz.prog 13=some [.string (ByteArray.mk #[]),.int .u64 0]:=by kernel_rfl
theorem z15:BZ Tryz.prog 15=some [.pointer none]:=by kernel_rfl
theorem z18:BZ Tryz.prog 18=some [.pointer none]:=by kernel_rfl
theorem z20:BZ Tryz.prog 20=some [.nilIface]:=by kernel_rfl
theorem HO:Aw Tryz.prog 22=some 1:=by kernel_rfl
theorem IF:EC Tryz.prog 22=true:=by kernel_rfl
theorem AFQ:([.slice none 0 0]:List Value).all (·.oneCell')=true:=by kernel_rfl
theorem z22:BZ Tryz.prog 22=some [.slice none 0 0]:=by kernel_rfl
theorem z24:BZ Tryz.prog 24=some [.nilFunc]:=by kernel_rfl
theorem qI:Aw Tryz.prog 28=some 1:=by kernel_rfl
theorem bq:EC Tryz.prog 28=true:=by kernel_rfl
theorem ABD:Aw Tryz.prog 29=some 1:=by kernel_rfl
theorem bu:EC Tryz.prog 29=true:=by kernel_rfl
theorem qJ:Aw Tryz.prog 30=some 1:=by kernel_rfl
theorem j4:EC Tryz.prog 30=true:=by kernel_rfl
theorem z31:BZ Tryz.prog 31=some (List.replicate 3 (.slice none 0 0)):=by kernel_rfl
theorem Et:Aw Tryz.prog 32=some 3:=by kernel_rfl
theorem E0:FG Tryz.prog 32=true:=by kernel_rfl
theorem wQ:∀ps,Tryz.prog.built 32 ps=Instr.fill (fun i=>(#[(0,1),(1,1),(2,1)]:Array (Nat×Nat))[i]?) ((List.replicate 3 (.slice none 0 0)):List Value).toArray ps:=by intro ps;kernel_rfl
theorem Iz:((List.replicate 3 (.slice none 0 0)):List Value).all (·.oneCell')=true:=by kernel_rfl
theorem z32:BZ Tryz.prog 32=some (List.replicate 3 (.slice none 0 0)):=by kernel_rfl
theorem KJ:Ah Tryz.prog 32 0=some 0:=by kernel_rfl
theorem OL:Ah Tryz.prog 32 1=some 1:=by kernel_rfl
theorem MA:Ah Tryz.prog 32 2=some 2:=by kernel_rfl
theorem ABE:EC Tryz.prog 36=true:=by kernel_rfl
theorem j5:Aw Tryz.prog 38=some 1:=by kernel_rfl
theorem Wm:FG Tryz.prog 38=true:=by kernel_rfl
theorem Yt:([.slice none 0 0]:List Value).all (·.oneCell')=true:=by kernel_rfl
theorem z38:BZ Tryz.prog 38=some [.slice none 0 0]:=by kernel_rfl
theorem wR:Ah Tryz.prog 38 0=some 0:=by kernel_rfl
theorem e_:Aw Tryz.prog 39=some 1:=by kernel_rfl
theorem bw:EC Tryz.prog 39=true:=by kernel_rfl
theorem ABF:([.int .i64 0]:List Value).all (·.oneCell')=true:=by kernel_rfl
theorem z39:BZ Tryz.prog 39=some [.int .i64 0]:=by kernel_rfl
theorem j6:EC Tryz.prog 42=true:=by kernel_rfl
theorem u7:EC Tryz.prog 43=true:=by kernel_rfl
theorem U6:Aw Tryz.prog 45=some 3:=by kernel_rfl
theorem TG:FG Tryz.prog 45=true:=by kernel_rfl
theorem ABG:∀ps,Tryz.prog.built 45 ps=Instr.fill (fun i=>(#[(0,1),(1,1),(2,1)]:Array (Nat×Nat))[i]?) ((List.replicate 3 (.slice none 0 0)):List Value).toArray ps:=by intro ps;kernel_rfl
theorem RP:((List.replicate 3 (.slice none 0 0)):List Value).all (·.oneCell')=true:=by kernel_rfl
theorem z45:BZ Tryz.prog 45=some (List.replicate 3 (.slice none 0 0)):=by kernel_rfl
theorem j7:Ah Tryz.prog 45 0=some 0:=by kernel_rfl
theorem j8:Ah Tryz.prog 45 1=some 1:=by kernel_rfl
theorem j9:Ah Tryz.prog 45 2=some 2:=by kernel_rfl
theorem Cn:Aw Tryz.prog 47=some 2:=by kernel_rfl
theorem C5:FG Tryz.prog 47=true:=by kernel_rfl
theorem Si:∀ps,Tryz.prog.built 47 ps=Instr.fill (fun i=>(#[(0,1),(1,1)]:Array (Nat×Nat))[i]?) ((List.replicate 2 (.int .i64 0)):List Value).toArray ps:=by intro ps;kernel_rfl
theorem Hj:((List.replicate 2 (.int .i64 0)):List Value).all (·.oneCell')=true:=by kernel_rfl
theorem fA:BZ Tryz.prog 47=some (List.replicate 2 (.int .i64 0)):=by kernel_rfl
theorem z51:BZ Tryz.prog 51=some [.int .i64 0,.slice none 0 0,.int .i64 0,.int .i64 0]:=by kernel_rfl
theorem ir:BZ Tryz.prog 54=some [.nilFunc]:=by kernel_rfl
theorem AFR:∀ps,Tryz.prog.built 66 ps=Instr.fill (fun i=>(#[(0,1),(1,1)]:Array (Nat×Nat))[i]?) ([.slice none 0 0,.int .i64 0]:List Value).toArray ps:=by intro ps;kernel_rfl
theorem AFS:([.slice none 0 0,.int .i64 0]:List Value).all (·.oneCell')=true:=by kernel_rfl
theorem wS:Ah Tryz.prog 66 0=some 0:=by kernel_rfl
theorem wT:Ah Tryz.prog 66 1=some 1:=by kernel_rfl
theorem ABH:Aw Tryz.prog 67=some 1:=by kernel_rfl
theorem ABI:EC Tryz.prog 67=true:=by kernel_rfl
theorem ABJ:Aw Tryz.prog 70=some 1:=by kernel_rfl
theorem j_:EC Tryz.prog 70=true:=by kernel_rfl
theorem ABK:([.nilFunc]:List Value).all (·.oneCell')=true:=by kernel_rfl
theorem z70:BZ Tryz.prog 70=some [.nilFunc]:=by kernel_rfl
theorem Sj:Aw Tryz.prog 71=some 1:=by kernel_rfl
theorem u9:EC Tryz.prog 71=true:=by kernel_rfl
theorem Bj:Aw Tryz.prog 73=some 9:=by kernel_rfl
theorem Bw:FG Tryz.prog 73=true:=by kernel_rfl
theorem qK:CW Tryz.prog 73=some 144:=by kernel_rfl
theorem fB:∀ps,Tryz.prog.built 73 ps=Instr.fill (fun i=>(#[(0,1),(1,1),(2,1),(3,1),(4,1),(5,1),(6,1),(7,1),(8,1)]:Array (Nat×Nat))[i]?) ([.string (ByteArray.mk #[]),.int .i64 0,.int .i64 0,.slice none 0 0,.bool false,.slice none 0 0,.slice none 0 0,.slice none 0 0,.bool false]:List Value).toArray ps:=by intro ps;kernel_rfl
theorem Dn:([.string (ByteArray.mk #[]),.int .i64 0,.int .i64 0,.slice none 0 0,.bool false,.slice none 0 0,.slice none 0 0,.slice none 0 0,.bool false]:List Value).all (·.oneCell')=true:=by kernel_rfl
theorem HU:BZ Tryz.prog 73=some [.string (ByteArray.mk #[]),.int .i64 0,.int .i64 0,.slice none 0 0,.bool false,.slice none 0 0,.slice none 0 0,.slice none 0 0,.bool false]:=by kernel_rfl
theorem kC:Ah Tryz.prog 73 0=some 0:=by kernel_rfl
theorem wU:Ah Tryz.prog 73 1=some 1:=by kernel_rfl
theorem Yu:Ah Tryz.prog 73 2=some 2:=by kernel_rfl
theorem GG:Ah Tryz.prog 73 3=some 3:=by kernel_rfl
theorem wV:Ah Tryz.prog 73 4=some 4:=by kernel_rfl
theorem Ge:Ah Tryz.prog 73 5=some 5:=by kernel_rfl
theorem MB:Ah Tryz.prog 73 6=some 6:=by kernel_rfl
theorem MC:Ah Tryz.prog 73 7=some 7:=by kernel_rfl
theorem wW:Ah Tryz.prog 73 8=some 8:=by kernel_rfl
theorem CR:Aw Tryz.prog 75=some 2:=by kernel_rfl
theorem Be:FG Tryz.prog 75=true:=by kernel_rfl
theorem kD:∀ps,Tryz.prog.built 75 ps=Instr.fill (fun i=>(#[(0,1),(1,1)]:Array (Nat×Nat))[i]?) ((List.replicate 2 (.int .i64 0)):List Value).toArray ps:=by intro ps;kernel_rfl
theorem Cd:((List.replicate 2 (.int .i64 0)):List Value).all (·.oneCell')=true:=by kernel_rfl
theorem z75:BZ Tryz.prog 75=some (List.replicate 2 (.int .i64 0)):=by kernel_rfl
theorem wX:Ah Tryz.prog 75 0=some 0:=by kernel_rfl
theorem wY:Ah Tryz.prog 75 1=some 1:=by kernel_rfl
theorem ABL:Aw Tryz.prog 76=some 1:=by kernel_rfl
theorem ABM:EC Tryz.prog 76=true:=by kernel_rfl
theorem B8:Aw Tryz.prog 78=some 4:=by kernel_rfl
theorem G5:FG Tryz.prog 78=true:=by kernel_rfl
theorem Sk:CW Tryz.prog 78=some 48:=by kernel_rfl
theorem ABN:∀ps,Tryz.prog.built 78 ps=Instr.fill (fun i=>(#[(0,2),(2,1),(3,1)]:Array (Nat×Nat))[i]?) ([.int .i64 0,.int .i64 0,.int .i64 0,.slice none 0 0]:List Value).toArray ps:=by intro ps;kernel_rfl
theorem MD:([.int .i64 0,.int .i64 0,.int .i64 0,.slice none 0 0]:List Value).all (·.oneCell')=true:=by kernel_rfl
theorem NH:BZ Tryz.prog 78=some [.int .i64 0,.int .i64 0,.int .i64 0,.slice none 0 0]:=by kernel_rfl
theorem wZ:Ah Tryz.prog 78 0=some 0:=by kernel_rfl
theorem we:Ah Tryz.prog 78 1=some 2:=by kernel_rfl
theorem kE:Ah Tryz.prog 78 2=some 3:=by kernel_rfl
theorem I0:Aw Tryz.prog 82=some 2:=by kernel_rfl
theorem kG:FG Tryz.prog 82=true:=by kernel_rfl
theorem wg:CW Tryz.prog 82=some 16:=by kernel_rfl
theorem ABO:∀ps,Tryz.prog.built 82 ps=Instr.fill (fun i=>(#[(0,1),(1,1)]:Array (Nat×Nat))[i]?) ((List.replicate 2 (.int .i64 0)):List Value).toArray ps:=by intro ps;kernel_rfl
theorem fC:((List.replicate 2 (.int .i64 0)):List Value).all (·.oneCell')=true:=by kernel_rfl
theorem z82:BZ Tryz.prog 82=some (List.replicate 2 (.int .i64 0)):=by kernel_rfl
theorem wh:Ah Tryz.prog 82 0=some 0:=by kernel_rfl
theorem wj:Ah Tryz.prog 82 1=some 1:=by kernel_rfl
theorem wm:Aw Tryz.prog 83=some 1:=by kernel_rfl
theorem ABP:EC Tryz.prog 83=true:=by kernel_rfl
theorem I2:Aw Tryz.prog 85=some 5:=by kernel_rfl
theorem TH:FG Tryz.prog 85=true:=by kernel_rfl
theorem qL:CW Tryz.prog 85=some 64:=by kernel_rfl
theorem AFT:∀ps,Tryz.prog.built 85 ps=Instr.fill (fun i=>(#[(0,1),(1,1),(2,1),(3,1),(4,1)]:Array (Nat×Nat))[i]?) ([.string (ByteArray.mk #[]),.int .i64 0,.int .i64 0,.slice none 0 0,.int .i64 0]:List Value).toArray ps:=by intro ps;kernel_rfl
theorem fD:([.string (ByteArray.mk #[]),.int .i64 0,.int .i64 0,.slice none 0 0,.int .i64 0]:List Value).all (·.oneCell')=true:=by kernel_rfl
theorem z85:BZ Tryz.prog 85=some [.string (ByteArray.mk #[]),.int .i64 0,.int .i64 0,.slice none 0 0,.int .i64 0]:=by kernel_rfl
theorem wo:Ah Tryz.prog 85 0=some 0:=by kernel_rfl
theorem wq:Ah Tryz.prog 85 1=some 1:=by kernel_rfl
theorem wu:Ah Tryz.prog 85 2=some 2:=by kernel_rfl
theorem U7:Ah Tryz.prog 85 3=some 3:=by kernel_rfl
theorem wv:Ah Tryz.prog 85 4=some 4:=by kernel_rfl
theorem ABQ:EC Tryz.prog 89=true:=by kernel_rfl
theorem U8:EC Tryz.prog 102=true:=by kernel_rfl
theorem ABR:Aw Tryz.prog 104=some 3:=by kernel_rfl
theorem wz:FG Tryz.prog 104=true:=by kernel_rfl
theorem ABS:∀ps,Tryz.prog.built 104 ps=Instr.fill (fun i=>(#[(0,1),(1,1),(2,1)]:Array (Nat×Nat))[i]?) ((List.replicate 3 (.slice none 0 0)):List Value).toArray ps:=by intro ps;kernel_rfl
theorem ABT:((List.replicate 3 (.slice none 0 0)):List Value).all (·.oneCell')=true:=by kernel_rfl
theorem QF:Ah Tryz.prog 104 0=some 0:=by kernel_rfl
theorem U9:Ah Tryz.prog 104 1=some 1:=by kernel_rfl
theorem bz:Ah Tryz.prog 104 2=some 2:=by kernel_rfl
theorem w4:EC Tryz.prog 105=true:=by kernel_rfl
theorem w5:EC Tryz.prog 106=true:=by kernel_rfl
theorem ABU:Aw Tryz.prog 108=some 2:=by kernel_rfl
theorem w7:FG Tryz.prog 108=true:=by kernel_rfl
theorem ABV:∀ps,Tryz.prog.built 108 ps=Instr.fill (fun i=>(#[(0,1),(1,1)]:Array (Nat×Nat))[i]?) ((List.replicate 2 (.slice none 0 0)):List Value).toArray ps:=by intro ps;kernel_rfl
theorem ABW:((List.replicate 2 (.slice none 0 0)):List Value).all (·.oneCell')=true:=by kernel_rfl
theorem qM:Ah Tryz.prog 108 0=some 0:=by kernel_rfl
theorem qN:Ah Tryz.prog 108 1=some 1:=by kernel_rfl
theorem ABX:Aw Tryz.prog 110=some 2:=by kernel_rfl
theorem w8:FG Tryz.prog 110=true:=by kernel_rfl
theorem ABY:∀ps,Tryz.prog.built 110 ps=Instr.fill (fun i=>(#[(0,1),(1,1)]:Array (Nat×Nat))[i]?) ([.slice none 0 0,.int .i64 0]:List Value).toArray ps:=by intro ps;kernel_rfl
theorem ABZ:([.slice none 0 0,.int .i64 0]:List Value).all (·.oneCell')=true:=by kernel_rfl
theorem CD:Aw Tryz.prog 113=some 8:=by kernel_rfl
theorem Ck:FG Tryz.prog 113=true:=by kernel_rfl
theorem TI:CW Tryz.prog 113=some 80:=by kernel_rfl
theorem NI:∀ps,Tryz.prog.built 113 ps=Instr.fill (fun i=>(#[(0,1),(1,1),(2,1),(3,1),(4,4)]:Array (Nat×Nat))[i]?) ([.int .i64 0,.int .i64 0,.int .i64 0,.int .i64 0,.int .i64 0,.int .i64 0,.int .i64 0,.slice none 0 0]:List Value).toArray ps:=by intro ps;kernel_rfl
theorem GS:([.int .i64 0,.int .i64 0,.int .i64 0,.int .i64 0,.int .i64 0,.int .i64 0,.int .i64 0,.slice none 0 0]:List Value).all (·.oneCell')=true:=by kernel_rfl
theorem I3:BZ Tryz.prog 113=some [.int .i64 0,.int .i64 0,.int .i64 0,.int .i64 0,.int .i64 0,.int .i64 0,.int .i64 0,.slice none 0 0]:=by kernel_rfl
theorem qO:Ah Tryz.prog 113 0=some 0:=by kernel_rfl
theorem GH:Ah Tryz.prog 113 1=some 1:=by kernel_rfl
theorem JY:Ah Tryz.prog 113 2=some 2:=by kernel_rfl
theorem JZ:Ah Tryz.prog 113 3=some 3:=by kernel_rfl
theorem QG:Ah Tryz.prog 113 4=some 4:=by kernel_rfl
theorem ABa:Aw Tryz.prog 115=some 1:=by kernel_rfl
theorem kH:EC Tryz.prog 115=true:=by kernel_rfl
theorem ABb:([.map none]:List Value).all (·.oneCell')=true:=by kernel_rfl
theorem AFU:BZ Tryz.prog 115=some [.map none]:=by kernel_rfl
theorem ABc:Aw Tryz.prog 120=some 2:=by kernel_rfl
theorem w9:FG Tryz.prog 120=true:=by kernel_rfl
theorem ABd:∀ps,Tryz.prog.built 120 ps=Instr.fill (fun i=>(#[(0,1),(1,1)]:Array (Nat×Nat))[i]?) ((List.replicate 2 (.int .i64 0)):List Value).toArray ps:=by intro ps;kernel_rfl
theorem ABe:((List.replicate 2 (.int .i64 0)):List Value).all (·.oneCell')=true:=by kernel_rfl
theorem qP:Ah Tryz.prog 120 0=some 0:=by kernel_rfl
theorem qQ:Ah Tryz.prog 120 1=some 1:=by kernel_rfl
theorem DD:Aw Tryz.prog 122=some 15:=by kernel_rfl
theorem Ja:FG Tryz.prog 122=true:=by kernel_rfl
theorem u_:CW Tryz.prog 122=some 152:=by kernel_rfl
theorem ABf:∀ps,Tryz.prog.built 122 ps=Instr.fill (fun i=>(#[(0,1),(1,1),(2,1),(3,2),(5,1),(6,2),(8,1),(9,1),(10,1),(11,1),(12,1),(13,2)]:Array (Nat×Nat))[i]?) ([.int .i64 0,.string (ByteArray.mk #[]),.string (ByteArray.mk #[]),.int .i64 0,.int .i64 0,.int .i64 0,.int .i64 0,.int .i64 0,.int .i64 0,.int .i64 0,.bool false,.int .i64 0,.slice none 0 0,.int .i64 0,.int .i64 0]:List Value).toArray ps:=by intro ps;kernel_rfl
theorem NJ:([.int .i64 0,.string (ByteArray.mk #[]),.string (ByteArray.mk #[]),.int .i64 0,.int .i64 0,.int .i64 0,.int .i64 0,.int .i64 0,.int .i64 0,.int .i64 0,.bool false,.int .i64 0,.slice none 0 0,.int .i64 0,.int .i64 0]:List Value).all (·.oneCell')=true:=by kernel_rfl
theorem Sl:BZ Tryz.prog 122=some [.int .i64 0,.string (ByteArray.mk #[]),.string (ByteArray.mk #[]),.int .i64 0,.int .i64 0,.int .i64 0,.int .i64 0,.int .i64 0,.int .i64 0,.int .i64 0,.bool false,.int .i64 0,.slice none 0 0,.int .i64 0,.int .i64 0]:=by kernel_rfl
theorem qR:Ah Tryz.prog 122 0=some 0:=by kernel_rfl
theorem qS:Ah Tryz.prog 122 1=some 1:=by kernel_rfl
theorem qT:Ah Tryz.prog 122 2=some 2:=by kernel_rfl
theorem qU:Ah Tryz.prog 122 3=some 3:=by kernel_rfl
theorem qV:Ah Tryz.prog 122 4=some 5:=by kernel_rfl
theorem qW:Ah Tryz.prog 122 5=some 6:=by kernel_rfl
theorem qX:Ah Tryz.prog 122 6=some 8:=by kernel_rfl
theorem qY:Ah Tryz.prog 122 7=some 9:=by kernel_rfl
theorem qZ:Ah Tryz.prog 122 8=some 10:=by kernel_rfl
theorem qa:Ah Tryz.prog 122 9=some 11:=by kernel_rfl
theorem Wn:Ah Tryz.prog 122 10=some 12:=by kernel_rfl
theorem kI:Ah Tryz.prog 122 11=some 13:=by kernel_rfl
theorem HE:Aw Tryz.prog 127=some 3:=by kernel_rfl
theorem w_:FG Tryz.prog 127=true:=by kernel_rfl
theorem kJ:CW Tryz.prog 127=some 24:=by kernel_rfl
theorem ABg:∀ps,Tryz.prog.built 127 ps=Instr.fill (fun i=>(#[(0,2),(2,1)]:Array (Nat×Nat))[i]?) ((List.replicate 3 (.int .i64 0)):List Value).toArray ps:=by intro ps;kernel_rfl
theorem kK:((List.replicate 3 (.int .i64 0)):List Value).all (·.oneCell')=true:=by kernel_rfl
theorem z127:BZ Tryz.prog 127=some (List.replicate 3 (.int .i64 0)):=by kernel_rfl
theorem qb:Ah Tryz.prog 127 0=some 0:=by kernel_rfl
theorem qc:Ah Tryz.prog 127 1=some 2:=by kernel_rfl
theorem xA:EC Tryz.prog 140=true:=by kernel_rfl
theorem vA:Aw Tryz.prog 166=some 1:=by kernel_rfl
theorem U_:EC Tryz.prog 166=true:=by kernel_rfl
theorem vB:([.pointer none]:List Value).all (·.oneCell')=true:=by kernel_rfl
theorem ABh:BZ Tryz.prog 166=some [.pointer none]:=by kernel_rfl
theorem GI:Aw Tryz.prog 170=some 1:=by kernel_rfl
theorem KK:EC Tryz.prog 170=true:=by kernel_rfl
theorem b_:CW Tryz.prog 170=some 4:=by kernel_rfl
theorem qd:BZ Tryz.prog 170=some [.int .u32 0]:=by kernel_rfl
theorem ABi:Aw Tryz.prog 180=some 1:=by kernel_rfl
theorem xB:EC Tryz.prog 180=true:=by kernel_rfl
theorem NK:Aw Tryz.prog 220=some 2:=by kernel_rfl
theorem VA:FG Tryz.prog 220=true:=by kernel_rfl
theorem kL:((List.replicate 2 (.int .i64 0)):List Value).all (·.oneCell')=true:=by kernel_rfl
theorem xC:BZ Tryz.prog 220=some (List.replicate 2 (.int .i64 0)):=by kernel_rfl
theorem qg:Ah Tryz.prog 220 0=some 0:=by kernel_rfl
theorem qh:Ah Tryz.prog 220 1=some 1:=by kernel_rfl
theorem Yv:EC Tryz.prog 239=true:=by kernel_rfl
theorem vC:∀ps,Tryz.prog.built 241 ps=Instr.fill (fun i=>(#[(0,1),(1,1),(2,1)]:Array (Nat×Nat))[i]?) ([.int .i64 0,.slice none 0 0,.slice none 0 0]:List Value).toArray ps:=by intro ps;kernel_rfl
theorem vD:([.int .i64 0,.slice none 0 0,.slice none 0 0]:List Value).all (·.oneCell')=true:=by kernel_rfl
theorem qi:Ah Tryz.prog 241 0=some 0:=by kernel_rfl
theorem cA:Ah Tryz.prog 241 1=some 1:=by kernel_rfl
theorem qj:Ah Tryz.prog 241 2=some 2:=by kernel_rfl
theorem ABj:Aw Tryz.prog 246=some 1:=by kernel_rfl
theorem kM:EC Tryz.prog 246=true:=by kernel_rfl
theorem BH:Aw Tryz.prog 248=some 4:=by kernel_rfl
theorem Bn:FG Tryz.prog 248=true:=by kernel_rfl
theorem TJ:CW Tryz.prog 248=some 64:=by kernel_rfl
theorem PG:∀ps,Tryz.prog.built 248 ps=Instr.fill (fun i=>(#[(0,1),(1,1),(2,1),(3,1)]:Array (Nat×Nat))[i]?) ([.int .i64 0,.slice none 0 0,.bool false,.slice none 0 0]:List Value).toArray ps:=by intro ps;kernel_rfl
theorem DW:([.int .i64 0,.slice none 0 0,.bool false,.slice none 0 0]:List Value).all (·.oneCell')=true:=by kernel_rfl
theorem EE:BZ Tryz.prog 248=some [.int .i64 0,.slice none 0 0,.bool false,.slice none 0 0]:=by kernel_rfl
theorem VB:Ah Tryz.prog 248 0=some 0:=by kernel_rfl
theorem ql:Ah Tryz.prog 248 1=some 1:=by kernel_rfl
theorem VC:Ah Tryz.prog 248 2=some 2:=by kernel_rfl
theorem cB:Ah Tryz.prog 248 3=some 3:=by kernel_rfl
theorem Dp:Aw Tryz.prog 260=some 12:=by kernel_rfl
theorem Fi:FG Tryz.prog 260=true:=by kernel_rfl
theorem TK:∀ps,Tryz.prog.built 260 ps=Instr.fill (fun i=>(#[(0,1),(1,1),(2,2),(4,2),(6,2),(8,2),(10,1),(11,1)]:Array (Nat×Nat))[i]?) ([.int .i64 0,.string (ByteArray.mk #[]),.int .i64 0,.int .i64 0,.int .i64 0,.int .i64 0,.int .i64 0,.int .i64 0,.int .i64 0,.int .i64 0,.int .i64 0,.int .i64 0]:List Value).toArray ps:=by intro ps;kernel_rfl
theorem GU:([.int .i64 0,.string (ByteArray.mk #[]),.int .i64 0,.int .i64 0,.int .i64 0,.int .i64 0,.int .i64 0,.int .i64 0,.int .i64 0,.int .i64 0,.int .i64 0,.int .i64 0]:List Value).all (·.oneCell')=true:=by kernel_rfl
theorem LW:BZ Tryz.prog 260=some [.int .i64 0,.string (ByteArray.mk #[]),.int .i64 0,.int .i64 0,.int .i64 0,.int .i64 0,.int .i64 0,.int .i64 0,.int .i64 0,.int .i64 0,.int .i64 0,.int .i64 0]:=by kernel_rfl
theorem cC:Ah Tryz.prog 260 0=some 0:=by kernel_rfl
theorem qm:Ah Tryz.prog 260 3=some 4:=by kernel_rfl
theorem qn:Ah Tryz.prog 260 6=some 10:=by kernel_rfl
theorem qo:Ah Tryz.prog 260 7=some 11:=by kernel_rfl
theorem vE:Aw Tryz.prog 300=some 2:=by kernel_rfl
theorem ABk:∀ps,Tryz.prog.built 300 ps=Instr.fill (fun i=>(#[(0,1),(1,1)]:Array (Nat×Nat))[i]?) ([.string (ByteArray.mk #[]),.int .i64 0]:List Value).toArray ps:=by intro ps;kernel_rfl
theorem vF:([.string (ByteArray.mk #[]),.int .i64 0]:List Value).all (·.oneCell')=true:=by kernel_rfl
theorem AFV:BZ Tryz.prog 300=some [.string (ByteArray.mk #[]),.int .i64 0]:=by kernel_rfl
theorem qp:Ah Tryz.prog 300 1=some 1:=by kernel_rfl
theorem TL:Aw Tryz.prog 326=some 5:=by kernel_rfl
theorem VD:FG Tryz.prog 326=true:=by kernel_rfl
theorem Ep:∀ps,Tryz.prog.built 326 ps=Instr.fill (fun i=>(#[(0,1),(1,1),(2,1),(3,1),(4,1)]:Array (Nat×Nat))[i]?) ([.string (ByteArray.mk #[]),.int .i64 0,.int .i64 0,.slice none 0 0,.slice none 0 0]:List Value).toArray ps:=by intro ps;kernel_rfl
theorem EM:([.string (ByteArray.mk #[]),.int .i64 0,.int .i64 0,.slice none 0 0,.slice none 0 0]:List Value).all (·.oneCell')=true:=by kernel_rfl
theorem xD:BZ Tryz.prog 326=some [.string (ByteArray.mk #[]),.int .i64 0,.int .i64 0,.slice none 0 0,.slice none 0 0]:=by kernel_rfl
theorem qq:Ah Tryz.prog 326 1=some 1:=by kernel_rfl
theorem qt:Ah Tryz.prog 326 2=some 2:=by kernel_rfl
theorem qu:Ah Tryz.prog 326 3=some 3:=by kernel_rfl
theorem qv:Ah Tryz.prog 326 4=some 4:=by kernel_rfl
theorem ME:EC Tryz.prog 353=true:=by kernel_rfl
theorem MF:EC Tryz.prog 354=true:=by kernel_rfl
theorem ABl:∀ps,Tryz.prog.built 356 ps=Instr.fill (fun i=>(#[(0,1),(1,8),(9,8)]:Array (Nat×Nat))[i]?) ([.pointer none,.int .i64 0,.int .i64 0,.int .i64 0,.int .i64 0,.int .i64 0,.int .i64 0,.int .i64 0,.slice none 0 0,.int .i64 0,.int .i64 0,.int .i64 0,.int .i64 0,.int .i64 0,.int .i64 0,.int .i64 0,.slice none 0 0]:List Value).toArray ps:=by intro ps;kernel_rfl
theorem ABm:([.pointer none,.int .i64 0,.int .i64 0,.int .i64 0,.int .i64 0,.int .i64 0,.int .i64 0,.int .i64 0,.slice none 0 0,.int .i64 0,.int .i64 0,.int .i64 0,.int .i64 0,.int .i64 0,.int .i64 0,.int .i64 0,.slice none 0 0]:List Value).all (·.oneCell')=true:=by kernel_rfl
theorem Jb:Ah Tryz.prog 356 0=some 0:=by kernel_rfl
theorem EK:Ah Tryz.prog 356 1=some 1:=by kernel_rfl
theorem qw:Ah Tryz.prog 356 2=some 9:=by kernel_rfl
theorem Ll:Aw Tryz.prog 357=some 1:=by kernel_rfl
theorem Ic:EC Tryz.prog 357=true:=by kernel_rfl
theorem vG:Aw Tryz.prog 358=some 13:=by kernel_rfl
theorem xE:FG Tryz.prog 358=true:=by kernel_rfl
theorem ABn:∀ps,Tryz.prog.built 358 ps=Instr.fill (fun i=>some (i*1,1)) ((List.replicate 13 (.nilFunc)):List Value).toArray ps:=by intro ps;kernel_rfl
theorem vH:((List.replicate 13 (.nilFunc)):List Value).all (·.oneCell')=true:=by kernel_rfl
theorem AFW:BZ Tryz.prog 358=some (List.replicate 13 (.nilFunc)):=by kernel_rfl
theorem ABo:Aw Tryz.prog 361=some 11:=by kernel_rfl
theorem xF:FG Tryz.prog 361=true:=by kernel_rfl
theorem ABp:∀ps,Tryz.prog.built 361 ps=Instr.fill (fun i=>(#[(0,9),(9,1),(10,1)]:Array (Nat×Nat))[i]?) ([.string (ByteArray.mk #[]),.int .i64 0,.int .i64 0,.slice none 0 0,.bool false,.slice none 0 0,.slice none 0 0,.slice none 0 0,.bool false,.int .i64 0,.slice none 0 0]:List Value).toArray ps:=by intro ps;kernel_rfl
theorem vI:([.string (ByteArray.mk #[]),.int .i64 0,.int .i64 0,.slice none 0 0,.bool false,.slice none 0 0,.slice none 0 0,.slice none 0 0,.bool false,.int .i64 0,.slice none 0 0]:List Value).all (·.oneCell')=true:=by kernel_rfl
theorem AFX:BZ Tryz.prog 361=some [.string (ByteArray.mk #[]),.int .i64 0,.int .i64 0,.slice none 0 0,.bool false,.slice none 0 0,.slice none 0 0,.slice none 0 0,.bool false,.int .i64 0,.slice none 0 0]:=by kernel_rfl
theorem qx:Ah Tryz.prog 361 0=some 0:=by kernel_rfl
theorem qy:Ah Tryz.prog 361 1=some 9:=by kernel_rfl
theorem qz:Ah Tryz.prog 361 2=some 10:=by kernel_rfl
theorem vJ:Aw Tryz.prog 365=some 115:=by kernel_rfl
theorem xH:FG Tryz.prog 365=true:=by kernel_rfl
theorem ABq:∀ps,Tryz.prog.built 365 ps=Instr.fill (fun i=>some (i*5,5)) ([.string (ByteArray.mk #[]),.int .i64 0,.int .i64 0,.slice none 0 0,.slice none 0 0,.string (ByteArray.mk #[]),.int .i64 0,.int .i64 0,.slice none 0 0,.slice none 0 0,.string (ByteArray.mk #[]),.int .i64 0,.int .i64 0,.slice none 0 0,.slice none 0 0,.string (ByteArray.mk #[]),.int .i64 0,.int .i64 0,.slice none 0 0,.slice none 0 0,.string (ByteArray.mk #[]),.int .i64 0,.int .i64 0,.slice none 0 0,.slice none 0 0,.string (ByteArray.mk #[]),.int .i64 0,.int .i64 0,.slice none 0 0,.slice none 0 0,.string (ByteArray.mk #[]),.int .i64 0,.int .i64 0,.slice none 0 0,.slice none 0 0,.string (ByteArray.mk #[]),.int .i64 0,.int .i64 0,.slice none 0 0,.slice none 0 0,.string (ByteArray.mk #[]),.int .i64 0,.int .i64 0,.slice none 0 0,.slice none 0 0,.string (ByteArray.mk #[]),.int .i64 0,.int .i64 0,.slice none 0 0,.slice none 0 0,.string (ByteArray.mk #[]),.int .i64 0,.int .i64 0,.slice none 0 0,.slice none 0 0,.string (ByteArray.mk #[]),.int .i64 0,.int .i64 0,.slice none 0 0,.slice none 0 0,.string (ByteArray.mk #[]),.int .i64 0,.int .i64 0,.slice none 0 0,.slice none 0 0,.string (ByteArray.mk #[]),.int .i64 0,.int .i64 0,.slice none 0 0,.slice none 0 0,.string (ByteArray.mk #[]),.int .i64 0,.int .i64 0,.slice none 0 0,.slice none 0 0,.string (ByteArray.mk #[]),.int .i64 0,.int .i64 0,.slice none 0 0,.slice none 0 0,.string (ByteArray.mk #[]),.int .i64 0,.int .i64 0,.slice none 0 0,.slice none 0 0,.string (ByteArray.mk #[]),.int .i64 0,.int .i64 0,.slice none 0 0,.slice none 0 0,.string (ByteArray.mk #[]),.int .i64 0,.int .i64 0,.slice none 0 0,.slice none 0 0,.string (ByteArray.mk #[]),.int .i64 0,.int .i64 0,.slice none 0 0,.slice none 0 0,.string (ByteArray.mk #[]),.int .i64 0,.int .i64 0,.slice none 0 0,.slice none 0 0,.string (ByteArray.mk #[]),.int .i64 0,.int .i64 0,.slice none 0 0,.slice none 0 0,.string (ByteArray.mk #[]),.int .i64 0,.int .i64 0,.slice none 0 0,.slice none 0 0]:List Value).toArray ps:=by intro ps;kernel_rfl
theorem vK:([.string (ByteArray.mk #[]),.int .i64 0,.int .i64 0,.slice none 0 0,.slice none 0 0,.string (ByteArray.mk #[]),.int .i64 0,.int .i64 0,.slice none 0 0,.slice none 0 0,.string (ByteArray.mk #[]),.int .i64 0,.int .i64 0,.slice none 0 0,.slice none 0 0,.string (ByteArray.mk #[]),.int .i64 0,.int .i64 0,.slice none 0 0,.slice none 0 0,.string (ByteArray.mk #[]),.int .i64 0,.int .i64 0,.slice none 0 0,.slice none 0 0,.string (ByteArray.mk #[]),.int .i64 0,.int .i64 0,.slice none 0 0,.slice none 0 0,.string (ByteArray.mk #[]),.int .i64 0,.int .i64 0,.slice none 0 0,.slice none 0 0,.string (ByteArray.mk #[]),.int .i64 0,.int .i64 0,.slice none 0 0,.slice none 0 0,.string (ByteArray.mk #[]),.int .i64 0,.int .i64 0,.slice none 0 0,.slice none 0 0,.string (ByteArray.mk #[]),.int .i64 0,.int .i64 0,.slice none 0 0,.slice none 0 0,.string (ByteArray.mk #[]),.int .i64 0,.int .i64 0,.slice none 0 0,.slice none 0 0,.string (ByteArray.mk #[]),.int .i64 0,.int .i64 0,.slice none 0 0,.slice none 0 0,.string (ByteArray.mk #[]),.int .i64 0,.int .i64 0,.slice none 0 0,.slice none 0 0,.string (ByteArray.mk #[]),.int .i64 0,.int .i64 0,.slice none 0 0,.slice none 0 0,.string (ByteArray.mk #[]),.int .i64 0,.int .i64 0,.slice none 0 0,.slice none 0 0,.string (ByteArray.mk #[]),.int .i64 0,.int .i64 0,.slice none 0 0,.slice none 0 0,.string (ByteArray.mk #[]),.int .i64 0,.int .i64 0,.slice none 0 0,.slice none 0 0,.string (ByteArray.mk #[]),.int .i64 0,.int .i64 0,.slice none 0 0,.slice none 0 0,.string (ByteArray.mk #[]),.int .i64 0,.int .i64 0,.slice none 0 0,.slice none 0 0,.string (ByteArray.mk #[]),.int .i64 0,.int .i64 0,.slice none 0 0,.slice none 0 0,.string (ByteArray.mk #[]),.int .i64 0,.int .i64 0,.slice none 0 0,.slice none 0 0,.string (ByteArray.mk #[]),.int .i64 0,.int .i64 0,.slice none 0 0,.slice none 0 0,.string (ByteArray.mk #[]),.int .i64 0,.int .i64 0,.slice none 0 0,.slice none 0 0]:List Value).all (·.oneCell')=true:=by kernel_rfl
theorem AFY:BZ Tryz.prog 365=some [.string (ByteArray.mk #[]),.int .i64 0,.int .i64 0,.slice none 0 0,.slice none 0 0,.string (ByteArray.mk #[]),.int .i64 0,.int .i64 0,.slice none 0 0,.slice none 0 0,.string (ByteArray.mk #[]),.int .i64 0,.int .i64 0,.slice none 0 0,.slice none 0 0,.string (ByteArray.mk #[]),.int .i64 0,.int .i64 0,.slice none 0 0,.slice none 0 0,.string (ByteArray.mk #[]),.int .i64 0,.int .i64 0,.slice none 0 0,.slice none 0 0,.string (ByteArray.mk #[]),.int .i64 0,.int .i64 0,.slice none 0 0,.slice none 0 0,.string (ByteArray.mk #[]),.int .i64 0,.int .i64 0,.slice none 0 0,.slice none 0 0,.string (ByteArray.mk #[]),.int .i64 0,.int .i64 0,.slice none 0 0,.slice none 0 0,.string (ByteArray.mk #[]),.int .i64 0,.int .i64 0,.slice none 0 0,.slice none 0 0,.string (ByteArray.mk #[]),.int .i64 0,.int .i64 0,.slice none 0 0,.slice none 0 0,.string (ByteArray.mk #[]),.int .i64 0,.int .i64 0,.slice none 0 0,.slice none 0 0,.string (ByteArray.mk #[]),.int .i64 0,.int .i64 0,.slice none 0 0,.slice none 0 0,.string (ByteArray.mk #[]),.int .i64 0,.int .i64 0,.slice none 0 0,.slice none 0 0,.string (ByteArray.mk #[]),.int .i64 0,.int .i64 0,.slice none 0 0,.slice none 0 0,.string (ByteArray.mk #[]),.int .i64 0,.int .i64 0,.slice none 0 0,.slice none 0 0,.string (ByteArray.mk #[]),.int .i64 0,.int .i64 0,.slice none 0 0,.slice none 0 0,.string (ByteArray.mk #[]),.int .i64 0,.int .i64 0,.slice none 0 0,.slice none 0 0,.string (ByteArray.mk #[]),.int .i64 0,.int .i64 0,.slice none 0 0,.slice none 0 0,.string (ByteArray.mk #[]),.int .i64 0,.int .i64 0,.slice none 0 0,.slice none 0 0,.string (ByteArray.mk #[]),.int .i64 0,.int .i64 0,.slice none 0 0,.slice none 0 0,.string (ByteArray.mk #[]),.int .i64 0,.int .i64 0,.slice none 0 0,.slice none 0 0,.string (ByteArray.mk #[]),.int .i64 0,.int .i64 0,.slice none 0 0,.slice none 0 0,.string (ByteArray.mk #[]),.int .i64 0,.int .i64 0,.slice none 0 0,.slice none 0 0]:=by kernel_rfl
theorem vL:Aw Tryz.prog 367=some 2:=by kernel_rfl
theorem xI:FG Tryz.prog 367=true:=by kernel_rfl
theorem ABr:∀ps,Tryz.prog.built 367 ps=Instr.fill (fun i=>some (i*1,1)) ((List.replicate 2 (.int .i64 0)):List Value).toArray ps:=by intro ps;kernel_rfl
theorem vM:((List.replicate 2 (.int .i64 0)):List Value).all (·.oneCell')=true:=by kernel_rfl
theorem AFZ:BZ Tryz.prog 367=some (List.replicate 2 (.int .i64 0)):=by kernel_rfl
theorem ABs:∀ps,Tryz.prog.built 368 ps=Instr.fill (fun i=>some (i*2,2)) ((List.replicate 10 (.int .i64 0)):List Value).toArray ps:=by intro ps;kernel_rfl
theorem ABt:((List.replicate 10 (.int .i64 0)):List Value).all (·.oneCell')=true:=by kernel_rfl
theorem ABu:∀ps,Tryz.prog.built 406 ps=Instr.fill (fun i=>some (i*1,1)) ((List.replicate 2 (.int .i64 0)):List Value).toArray ps:=by intro ps;kernel_rfl
theorem ABv:((List.replicate 2 (.int .i64 0)):List Value).all (·.oneCell')=true:=by kernel_rfl
theorem ABw:∀ps,Tryz.prog.built 408 ps=Instr.fill (fun i=>some (i*1,1)) ((List.replicate 3 (.int .i64 0)):List Value).toArray ps:=by intro ps;kernel_rfl
theorem ABx:((List.replicate 3 (.int .i64 0)):List Value).all (·.oneCell')=true:=by kernel_rfl
end Go.Proofs.YthommhphcagokaaGreatDoor
namespace Cp
open Go Go.RowKit Go.Great
variable{a:Act}{ops:Array Oper}{M:Av}{new:Bool}{f:FuncId}{rows:List (List Pr)}{r:List Oper}{ps qs:List Pr}{zs:List Value}{cap d i j k m:Nat}{x:Operand}{p:Pr}{T:TypeId}{v:Value}{w:World}
section
variable{P:Program}{L:Lg P}{n:Fm}{fz:Nat}{E:Env}{M0:Av}{w0:World}{S:Nat->Prop}{rs:List Ay}{o:Oper}
def lens(m:Nat):Pr where
 h _ _ v:=∃a c,v= .slice a m c
 st _M _w _M' _w' _v _ h:=h
instance ABy (m:Nat):One (lens m):=⟨by rintro M w v ⟨a,c,rfl⟩;exact⟨rfl,rfl⟩⟩
def DQ(e:TypeId)(sz:Nat)(rows:List (List Pr))(v:Value):Ay where
 blk:=match v with| .slice (some a) _ _=>some a.block|_=>none
 new:=true
 h M w:=∃(b cap:Nat) (spare:List Value),v= .slice (some ⟨b,0,none⟩) rows.length cap/\rows.length<=cap/\cap<=maxLen/\spare.length=(cap-rows.length)*sz/\(AE true b e (rows.flatten++spare.map is)).h M w
 st M w M' w' he hk h:=by
  obtain⟨b,cap,spare,rfl,h1,h2,h3,h4⟩:=h;exact⟨b,cap,spare,rfl,h1,h2,h3,(AE true b e _).st _ _ _ _ he hk h4⟩
theorem Jc{sz:Nat}:∀{rows:List (List Pr)} {i j:Nat} {row:List Pr},(∀r∈rows,r.length=sz)->rows[i]? =some row->j<sz->rows.flatten[i*sz+j]? =row[j]?
 |[],_,_,_,_,h,_=>by simp at h
 |a::l,0,j,row,hl,h,hj=>by
  simp at h;subst h;have:=hl a Ai;rw[List.flatten_cons,Nat.zero_mul,Nat.zero_add,List.getElem?_append_left AA]
 |a::l,i+1,j,row,hl,h,hj=>by
  have h1:=hl a Ai;rw[List.flatten_cons,Nat.succ_mul,List.getElem?_append_right AA,h1,show i*sz+sz+j-sz=i*sz+j by omega];exact Jc (fun r hr=>hl r (List.mem_cons_of_mem _ hr)) Fc hj
theorem Cw{sz:Nat}:∀{rows:List (List Pr)},(∀r∈rows,r.length=sz)->rows.flatten.length=rows.length*sz
 |[],_=>by simp
 |a::l,h=>by
  rw[List.flatten_cons,List.length_append,Cw (fun r hr=>h r (List.mem_cons_of_mem _ hr)),h a Ai,List.length_cons,Nat.succ_mul];omega
theorem TN{M:Av}{w:World}:∀{ps:List Pr} {vs:List Value},vs.length=ps.length->(∀(k:Nat) p,ps[k]? =some p->∃u,vs[k]? =some u/\p.h M w u)->HL M w ps vs
 |[],[],_,_=>trivial
 |[],_::_,h,_=>by simp at h
 |_::_,[],h,_=>by simp at h
 |p::ps,v::vs,h,hk=>by
  refine⟨?_,TN Fc fun k q hq=>by simpa using hk (k+1) q (by simpa using hq)⟩;obtain⟨u,hu,hp⟩:=hk 0 p rfl;simp at hu;subst hu;exact hp
theorem Flat.hl{sz:Nat}{news:List Value}(hsz:0<sz)(h:Flat M w sz rows news):HL M w rows.flatten news:=by
 have hl:∀r∈rows,r.length=sz:=fun r hr=>by obtain⟨i,hi⟩:=List.mem_iff_getElem?.1 hr;exact(h.2.2 i r hi).1
 refine TN (by rw[h.1,Cw hl]) fun k p hk=>?_;have YL:k<rows.length*sz:=by rw[←Cw hl];rcases Nat.lt_or_ge k rows.flatten.length with h|h;exact h;rw[List.getElem?_eq_none h]at hk;cases hk
 have hi:k/sz<rows.length:=Nat.div_lt_of_lt_mul (by rw[Nat.mul_comm];exact YL);have hj:k % sz<sz:=Nat.mod_lt _ hsz;have he:k/sz*sz+k % sz=k:=by rw[Nat.mul_comm];exact Nat.div_add_mod k sz
 have hr:=List.getElem?_eq_getElem hi;rw[←he,Jc hl hr hj]at hk;obtain⟨u,hu,hp⟩:=(h.2.2 _ _ hr).2 _ p hk;exact⟨u,by rw[←he];exact hu,hp⟩
theorem HL.flat{sz:Nat}{cs:List Value}(hl:∀r∈rows,r.length=sz)(h:HL M w (rows.flatten++qs) cs)(h1:∀c∈cs,c.oneCell'=true):Flat M w sz rows (cs.take (rows.length*sz)):=by
 have hfl:=Cw hl;have hlen:=h.length;refine⟨by rw[List.length_take,hlen,List.length_append,hfl];omega,fun u hu=>h1 u (List.mem_of_mem_take hu),fun i row hi=>?_⟩;have hrl:=hl row (List.mem_of_getElem? hi);refine⟨hrl,fun j p hp=>?_⟩;have hjl:j<sz:=by grind
 have FC:i<rows.length:=by grind
 have hlt:i*sz+j<rows.length*sz:=by have:(i+1)*sz<=rows.length*sz:=Nat.mul_le_mul_right sz FC;rw[Nat.add_mul]at this;omega
 obtain⟨u,hu,hh⟩:=h.at_ (i*sz+j) p (by rw[List.getElem?_append_left (by rw[hfl];exact hlt),Jc hl hi hjl];exact hp);exact⟨u,by rw[List.getElem?_take,if_pos hlt];exact hu,hh⟩
theorem Eb{z:Array Value}(hz:z.toList=zs)(h1:zs.all (·.oneCell')=true):∀c∈(Builtin.zeroCells z k).toList,c.oneCell'=true:=by
 intro c hc;simp only[Builtin.zeroCells,Array.toList_map,Array.toList_range,List.mem_map,List.mem_range]at hc;obtain⟨i,hi,rfl⟩:=hc;have hpos:0<z.size:=by grind
 have hm:i % z.size<z.size:=Nat.mod_lt _ hpos;rw[getElem!_pos z _ hm];exact List.all_eq_true.1 h1 _ (by rw[←hz];simp)
theorem q_{t ty e:TypeId}{sz bytes:Nat}{u:Value}(ht:P.underlying t=some (.slice e))(hz:Aw P e=some sz)(hby:CW P e=some bytes)(Dw:BZ P e=some zs)(hzl:zs.length=sz)(hone:zs.all (·.oneCell')=true)(hsz:0<sz)(h:BD M0 w0 S rs M w)(hj:rs[j]? =some Bb)(hu:(slice sz rows).h M w u)(hpos:0<rows.length)(GA:rows.length<=maxLen)(hfit:rows.length*bytes<=140737488355328):
  ∃v' w' M',(Builtin.append_ #[t,t] ty #[.slice none 0 0,u]).run P w= .ok v' w'/\(lens rows.length).h M' w' v'/\Ext M w M' w'/\BD M0 w0 S (rs.set j (DQ e sz rows v')) M' w':=by
 unfold Aw at hz;unfold CW at hby;unfold BZ at Dw;cases hi:P.info? e with
 |none=>rw[hi]at hz;cases hz
 |some i=>
  rw[hi]at hz hby Dw;simp only[Option.map_some,Option.some.injEq,Option.map_eq_some_iff]at hz hby Dw;obtain⟨z,WK,Dw⟩:=Dw;have Uv:z.cells.size=sz:=by rw[←hzl,←Dw];simp
  obtain⟨A',c',rfl,bY,Uw,ij,Fh⟩:=hu;have LV:(slice sz rows).h M w (.slice A' rows.length c'):=⟨A',c',rfl,bY,Uw,ij,Fh⟩
  obtain⟨OH,rfl⟩:∃OH,A'=some OH:=by
   obtain⟨_,b,hb,_⟩:=Fh 0 _ (List.getElem?_eq_getElem hpos);exact⟨b,hb⟩
  obtain⟨news,hfl,hcell⟩:=Fg hsz LV;have hrun:=run_append_nil (P:=P) w t ty e i z ht hi WK OH rows.length c' news (by rw[hz];exact hfl.1) (fun k u hk=>(hcell k u hk).1) hpos P4 (by rw[hby];omega)
  generalize hcap:grownCap w rows.length 0 e=cap at hrun
  have hge:rows.length<=cap:=by rw[←hcap];exact grownCap_ge _ _ _ _
  have hle:cap<=maxLen:=by rw[←hcap];exact grownCap_le_maxLen _ _ _ _ GA
  generalize Sg:Builtin.zeroCells z.cells (cap-rows.length)=zc at hrun
  have hzs:zc.size=(cap-rows.length)*sz:=by rw[←Sg,size_zeroCells,Uv]
  have hzo:∀c∈zc.toList,c.oneCell'=true:=by rw[←Sg];exact Eb Dw hone
  have hb:Below w.heap.size w (w.drew.alloc (.cells (news.toArray++zc) e)):=((Below.refl _ _).drew).alloc (Nat.le_refl _) _;have h2:=Ext.below (M:=M) hb
  have EN:Ext M w (fun b o=>M b o\/b=w.heap.size) (w.drew.alloc (.cells (news.toArray++zc) e)):=by
   refine⟨h2.size,fun a v hc hm=>⟨fun hx=>?_,(h2.keep a v hc hm).2⟩,fun b o ho hp hm=>⟨fun hx=>?_,(h2.obj b o ho hp hm).2⟩⟩
   .
    rcases hx with hx|hx
    .exact DL
    .exact El
   .grind
  have hs1:(w.drew.alloc (.cells (news.toArray++zc) e)).heap.size=w.heap.size+1:=by simp
  refine⟨_,_,fun b o=>M b o\/b=w.heap.size,hrun,⟨_,_,rfl⟩,EN,?_⟩;refine h.replace hj EN hb.os hb.tape hb.output (fun k hk _=>hb.block k hk) rfl (fun b o hm _=> .inl hm) (fun b o hx=>?_) ?_ rfl (fun b hbk=>?_)
  .
   rcases hx with hx|hx
   .exact K8
   .omega
  .
   refine⟨w.heap.size,cap,zc.toList,rfl,hge,hle,by simpa using hzs,fun o=> .inr rfl,news++zc.toList,?_,?_,?_⟩
   .
    have hh:(w.drew.alloc (.cells (news.toArray++zc) e)).heap[w.heap.size]? =some (.cells (news.toArray++zc) e (0,0)):=heap_alloc_new w.drew _;rw[hh];simp
   .exact((hfl.st EN).hl hsz).app (NB _ _ _)
   .
    intro c hc;rcases List.mem_append.1 hc with hc|hc
    .exact hfl.2.1 c hc
    .exact hzo c hc
  .
   have Ef:some w.heap.size=some b:=hbk
   injection Ef with e1
   subst e1;exact⟨by rw[hs1];omega,.inr (Nat.le_refl _)⟩
theorem St.NL{e:TypeId}{sz:Nat}(j:Nat)(hj:rs[j]? =some (DQ e sz rows v))(h:St n E (Hp M0 w0 S rs) a w):
  ∃(b cap:Nat) (spare:List Value),v= .slice (some ⟨b,0,none⟩) rows.length cap/\rows.length<=cap/\cap<=maxLen/\spare.length=(cap-rows.length)*sz/\St n E (Hp M0 w0 S (rs.set j (AE true b e (rows.flatten++spare.map is)))) a w:=by
 obtain⟨M,h1,h2,h3,h4⟩:=h;have h4:BD M0 w0 S rs M w:=h4;obtain⟨b,cap,spare,rfl,h5,h6,h7,h8⟩:=(h4.hold _ (List.mem_of_getElem? hj)).1;exact⟨b,cap,spare,rfl,h5,h6,h7,M,h1,h2,h3,h4.DF hj rfl rfl h8⟩
theorem Tr.NL{Q:Exit->Act->World->Prop}{c:Code}{e:TypeId}{sz:Nat}(j:Nat)(hj:rs[j]? =some (DQ e sz rows v))(k:∀(b cap:Nat) (spare:List Value),v= .slice (some ⟨b,0,none⟩) rows.length cap->rows.length<=cap->cap<=maxLen->spare.length=(cap-rows.length)*sz->Tr L n E (Hp M0 w0 S (rs.set j (AE true b e (rows.flatten++spare.map is)))) c Q):Tr L n E (Hp M0 w0 S rs) c Q:=
 fun a w hs=>let ⟨b,cap,spare,h1,h2,h3,h4,h5⟩:=hs.NL j hj;k b cap spare h1 h2 h3 h4 a w h5
theorem Fin.NL{Q:Exit->Act->World->Prop}{ex:Exit}{e:TypeId}{sz:Nat}(j:Nat)(hj:rs[j]? =some (DQ e sz rows v))(k:∀(b cap:Nat) (spare:List Value),v= .slice (some ⟨b,0,none⟩) rows.length cap->rows.length<=cap->cap<=maxLen->spare.length=(cap-rows.length)*sz->Fin n E (Hp M0 w0 S (rs.set j (AE true b e (rows.flatten++spare.map is)))) Q ex):Fin n E (Hp M0 w0 S rs) Q ex:=
 fun a w hs=>let ⟨b,cap,spare,h1,h2,h3,h4,h5⟩:=hs.NL j hj;k b cap spare h1 h2 h3 h4 a w h5
theorem BD.kN{b sz:Nat}{e:TypeId}(h:BD M0 w0 S rs M w)(hj:rs[j]? =some (AE true b e (rows.flatten++qs)))(hl:∀r∈rows,r.length=sz)(hc:rows.length<=cap)(hm:cap<=maxLen)(hq:qs.length=(cap-rows.length)*sz):
  ∃M',Ext M w M' w/\BD M0 w0 S (rs.set j (Bc e sz (.slice (some ⟨b,0,none⟩) rows.length cap))) M' w/\(slice sz rows).h M' w (.slice (some ⟨b,0,none⟩) rows.length cap):=by
 obtain⟨⟨hM,cs,hh,hcs,hone⟩,pJ⟩:=h.hold _ (List.mem_of_getElem? hj);have hbl:=(pJ b rfl).1;have hfl:=HL.flat hl hcs hone;have hlen:=hcs.length;rw[List.length_append,Cw hl,hq,←Nat.add_mul,show rows.length+(cap-rows.length)=cap by omega]at hlen;have he:Ext M w (fun b' o=>M b' o/\¬(b'=b/\o<rows.length*sz)) w:=Ext.less fun _ _ h=>h.1;refine⟨_,he,?_,FN (hfl.st he) hc hm fun k u hk=>?_⟩
 .
  refine h.replace hj he rfl rfl rfl (fun _ _ _=>rfl) rfl (fun b' o hm' hne=>⟨hm',fun hx=>hne (by rw[hx.1];rfl)⟩) (fun b' o hx=>h.bd _ _ hx.1) ?_ rfl (fun b' hbk=>?_)
  .
   intro a' n' c' hv hlt
   injection hv with e1 e2 e3
   injection e1 with e1
   subst e1;subst e2;subst e3;refine⟨⟨cs.take (rows.length*sz),hfl.1,.inr ⟨b,cap,cs.toArray,rfl,Nat.zero_le _,hh,hc,hm,by simpa using hlen,by simp⟩⟩,fun o ho=>⟨hM o,fun hx=>by omega⟩⟩
  .
   have Ef:D9 (.slice (some ⟨b,0,none⟩) rows.length cap)=some b':=hbk;simp only[D9]at Ef
   split at Ef
   .simp at Ef;subst Ef;exact⟨hbl,.inl rfl⟩
   .cases Ef
 .
  have YL:k<rows.length*sz:=by rw[←hfl.1];rcases Nat.lt_or_ge k (cs.take (rows.length*sz)).length with h|h;exact h;rw[List.getElem?_eq_none h]at hk;cases hk
  rw[List.getElem?_take,if_pos YL]at hk;exact⟨by simp[World.cell?,hh,hk],fun hx=>hx.2 ⟨rfl,YL⟩⟩
theorem St.rA{b b0 sz:Nat}{e:TypeId}{ps':List Pr}(j i k:Nat)(hj:rs[j]? =some (AE true b e (rows.flatten++qs)))(hi:rs[i]? =some (AE new b0 T ps))(hij:j≠i)(hk:ps[k]? =some p)(hp:Pr.le p (is (.slice (some ⟨b,0,none⟩) rows.length cap)))(hl:∀r∈rows,r.length=sz)(hc:rows.length<=cap)(hm:cap<=maxLen)(hq:qs.length=(cap-rows.length)*sz)(hps:ps.set k (Aj (.slice (some ⟨b,0,none⟩) rows.length cap) (slice sz rows))=ps')(h:St n E (Hp M0 w0 S rs) a w):St n E (Hp M0 w0 S ((rs.set j (Bc e sz (.slice (some ⟨b,0,none⟩) rows.length cap))).set i (AE new b0 T ps'))) a w:=by
 obtain⟨M,h1,h2,h3,h4⟩:=h;obtain⟨M',h5,h6,h7⟩:=BD.kN h4 hj hl hc hm hq;have hi':(rs.set j (Bc e sz (.slice (some ⟨b,0,none⟩) rows.length cap)))[i]? =some (AE new b0 T ps):=by grind
 obtain⟨h8,cs,h9,h10,h11⟩:=(h6.hold _ (List.mem_of_getElem? hi')).1;refine⟨M',h1,h2,fun s q hs=>q.st _ _ _ _ _ h5 (h3 s q hs),h6.DF hi' rfl rfl ⟨h8,cs,h9,?_,h11⟩⟩;subst hps;refine TN (by rw[h10.length];simp) fun k' p' hk'=>?_;rw[List.getElem?_set]at hk'
 split at hk'
 .
  rename_i e1
  subst e1
  split at hk'
  .
   obtain⟨u,hu,jk⟩:=h10.at_ k p hk;simp at hk';subst hk';have:=hp _ _ _ jk;refine⟨u,hu,this,?_⟩;have hu2:u= .slice (some ⟨b,0,none⟩) rows.length cap:=this;rw[hu2];exact h7
  .cases hk'
 .exact h10.at_ k' p' hk'
theorem Tr.rA{Q:Exit->Act->World->Prop}{c:Code}{b b0 sz:Nat}{e:TypeId}(rows:List (List Pr)){ps':List Pr}(j i k:Nat)(hj:rs[j]? =some (AE true b e (rows.flatten++qs)))(hi:rs[i]? =some (AE new b0 T ps))(hij:j≠i)(hk:ps[k]? =some p)(hp:Pr.le p (is (.slice (some ⟨b,0,none⟩) rows.length cap)))(hl:∀r∈rows,r.length=sz)(hc:rows.length<=cap)(hm:cap<=maxLen)(hq:qs.length=(cap-rows.length)*sz)(hps:ps.set k (Aj (.slice (some ⟨b,0,none⟩) rows.length cap) (slice sz rows))=ps')(k':Tr L n E (Hp M0 w0 S ((rs.set j (Bc e sz (.slice (some ⟨b,0,none⟩) rows.length cap))).set i (AE new b0 T ps'))) c Q):Tr L n E (Hp M0 w0 S rs) c Q:=
 Tr.conv (fun _ _ hs=>hs.rA j i k hj hi hij hk hp hl hc hm hq hps) k'
end
abbrev str(l:List UInt8):Pr:=is (.string ⟨l.toArray⟩)
theorem MG(l:List UInt8):(ByteArray.mk l.toArray).toList=l:=by rw[ByteArray.toList_eq]
theorem RQ(l:List UInt8):(ByteArray.mk l.toArray).size=l.length:=rfl
section
variable{P:Program}{L:Lg P}{E:Env}{I:Cj}{o:Oper}
theorem xJ{t u:TypeId}{y:Operand}{a b:List UInt8}(ho:o.op= .binOp .eql t x y u)(hx:VL E x (str a))(hy:VL E y (str b)):Af P I o E (bool (decide (a=b))):=
 Af.same fun M w ac he _=>by
  have h1:ac.eval x=_:=hx.ev he Am;have h2:ac.eval y=_:=hy.ev he Am;refine⟨_,by simp[execOp,ho,h1,h2,eqGuard,binOp,Op.stringOp,MG];rfl,?_⟩;show Value.bool _=Value.bool _
  congr 1
  rw[Bool.eq_iff_iff];simp
theorem xL{t u:TypeId}{y:Operand}{a b:List UInt8}(ho:o.op= .binOp .neq t x y u)(hx:VL E x (str a))(hy:VL E y (str b)):Af P I o E (bool (!decide (a=b))):=
 Af.same fun M w ac he _=>by
  have h1:ac.eval x=_:=hx.ev he Am;have h2:ac.eval y=_:=hy.ev he Am;refine⟨_,by simp[execOp,ho,h1,h2,eqGuard,binOp,Op.stringOp,MG];rfl,?_⟩;show Value.bool _=Value.bool _
  congr 1
  rw[Bool.eq_iff_iff];simp
theorem Wo:∀(a b:List UInt8),Op.bytesLess a b=decide (Lib.compareBytes a b= -1)
 |_,[]=>by cases ‹List UInt8›<;>simp[Op.bytesLess,Lib.compareBytes]
 |[],_::_=>by simp[Op.bytesLess,Lib.compareBytes]
 |a::x,b::y=>by
  rw[Op.bytesLess,Wo x y,Lib.compareBytes]
  by_cases h1:a<b
  .simp[h1]
  .
   by_cases h2:b<a
   .
    have h3:a≠b:=fun e=>by subst e;exact h1 h2
    simp[h1,h2,h3]
   .
    have h3:a=b:=UInt8.le_antisymm (UInt8.not_lt.1 h2) (UInt8.not_lt.1 h1);simp[h1,h2,h3]
theorem MH{t u:TypeId}{y:Operand}{a b:List UInt8}(ho:o.op= .binOp .geq t x y u)(hx:VL E x (str a))(hy:VL E y (str b)):Af P I o E (bool (!decide (Lib.compareBytes a b= -1))):=
 Af.same fun M w ac he _=>by
  have h1:ac.eval x=_:=hx.ev he Am;have h2:ac.eval y=_:=hy.ev he Am;exact⟨_,by simp[execOp,ho,h1,h2,eqGuard,binOp,Op.stringOp,MG,Wo],rfl⟩
theorem rB{t:TypeId}{a:List UInt8}(ho:o.op= .call { callee:= .builtin .len,args:= #[x],argTypes:= #[t] })(ht:P.underlying t=some .string)(hx:VL E x (str a)):Af P I o E (int ((a.length:Nat):Int)):=
 Af.same fun M w ac he _=>by
  have h1:ac.eval x=_:=hx.ev he CB;exact⟨.int .i64 a.length,by simp[execOp,ho,resolve,invoke,builtin,Builtin.len_,h1,run_underlying ht,goInt,RQ],rfl⟩
theorem QH{t:TypeId}{y:Operand}{k:IntKind}{a:List UInt8}{i:Int}{c:UInt8}(ho:o.op= .index t x y)(ht:P.underlying t=some .string)(hx:VL E x (str a))(hy:VL E y (is (.int k i)))(h0:0<=i)(hc:a[i.toNat]? =some c):Af P I o E (is (.int .u8 c.toNat)):=
 Af.same fun M w ac he _=>by
  have h1:ac.eval x=_:=hx.ev he Am;have h2:ac.eval y=_:=hy.ev he Am;refine⟨_,?_,rfl⟩;have hlt:i.toNat<a.length:=by rcases Nat.lt_or_ge i.toNat a.length with h|h;exact h;rw[List.getElem?_eq_none h]at hc;cases hc
  have h3:(ByteArray.mk a.toArray)[i.toNat]? =some c:=by
   rw[getElem?_pos (ByteArray.mk a.toArray) i.toNat (by rw[RQ];exact hlt)];rw[List.getElem?_eq_getElem hlt]at hc;simp only[Option.some.injEq]at hc;rw[←hc];rfl
  simp[execOp,ho,h1,h2,Instr.index,asIntOf,run_underlying ht,h0,h3]
theorem KL{s t e:TypeId}{a:List UInt8}(ho:o.op= .convert s t x)(hs:P.underlying s=some .string)(ht:P.underlying t=some (.slice e))(he:P.underlying e=some (.int .u8))(hx:VL E x (str a))(hm:a.length<=maxLen):Af P I o E (slice 1 (a.map fun c=>[is (.int .u8 c.toNat)])):=
 Af.val fun M w ac hev hI=>by
  have h1:ac.eval x=_:=hx.ev hev Am;have hrun:=Lib.run_convert_string_bytes (P:=P) w s t e ⟨a.toArray⟩ hs ht he;have hcap:=grownCap_ge w a.length 0 e;have hcm:=grownCap_le_maxLen w a.length 0 e hm;refine⟨.slice (some ⟨w.heap.size,0,none⟩) a.length (grownCap w a.length 0 e),Lib.bytesWorld w e ⟨a.toArray⟩,by simp[execOp,ho,h1,hrun];exact⟨rfl,rfl⟩,?_,?_⟩
  .
   have hbd:Bd M w:=I.bd _ _ hI;refine⟨_,grownCap w a.length 0 e,by rw[List.length_map],by rw[List.length_map];exact hcap,hcm,(fun h=>by cases h),fun i row hr=>?_⟩;rw[List.getElem?_map]at hr;cases hc:a[i]? with
   |none=>rw[hc]at hr;cases hr
   |some c=>
    rw[hc]at hr;simp only[Option.map_some,Option.some.injEq]at hr;subst hr;have FC:i<a.length:=by rcases Nat.lt_or_ge i a.length with h|h;exact h;rw[List.getElem?_eq_none h]at hc;cases hc
    refine⟨rfl,_,rfl,fun j p hp=>?_⟩
    have hj:j=0:=by
     rcases Nat.eq_zero_or_pos j with h|h
     .exact h
     .rw[List.getElem?_eq_none Ci]at hp;cases hp
    subst hj;simp only[List.getElem?_cons_zero,Option.some.injEq]at hp;subst hp;refine⟨.int .u8 c.toNat,?_,fun hmm=>?_,rfl,rfl⟩
    .
     rw[show Addr.add ⟨w.heap.size,0,none⟩ (i*1+0)=⟨w.heap.size,i,none⟩by unfold Addr.add;split<;>simp_all];rw[Lib.bytesWorld_cell w e ⟨a.toArray⟩ i (by rw[RQ];exact FC)];have:([]++a).getD i 0=c:=by simp[hc]
     simp[hc]
    .have:=hbd _ _ hmm;simp at this
  .exact Lib.bytesWorld_below w e ⟨a.toArray⟩
theorem VE{a:List UInt8}{c:UInt8}(h:a[k]? =some c):a[((k:Nat):Int).toNat]? =some c:=h
theorem Wp{t e:TypeId}{y:Operand}{k:IntKind}{i:Int}{len sz:Nat}(ho:o.op= .index t x y)(ht:P.underlying t=some (.array len e))(he:FG P e=true)(hz:Aw P e=some sz)(hx:VL E x (agg ps))(hy:VL E y (is (.int k i)))(h0:0<=i)(hl:i<len)(hq:(ps.drop (i.toNat*sz)).take sz=qs):Af P I o E (agg qs):=
 Af.same fun M w ac hev _=>by
  obtain⟨cs,h1,ho1,h2⟩:=hx.ev hev Am;have h3:ac.eval y=_:=hy.ev hev Am;refine⟨.agg (cs.toArray.extract (i.toNat*sz) (i.toNat*sz+sz)),?_,(cs.drop (i.toNat*sz)).take sz,?_,fun c hc=>ho1 c (List.mem_of_mem_drop (List.mem_of_mem_take hc)),by rw[←hq];exact(h2.drop _).take _⟩
  .simp[execOp,ho,h1,h3,Instr.index,asIntOf,run_underlying ht,h0,hl,Bz hz,part,FL he]
  .
   congr 1
   apply Array.toList_inj.1
   simp[List.extract,Nat.add_sub_cancel_left]
theorem VF{xs:List Value}(h:(agg (xs.map is)).h M w v):v= .agg xs.toArray:=by
 obtain⟨cs,rfl,ho,h2⟩:=h
 congr 1
 have:cs=xs:=by
  clear ho
  induction xs generalizing cs with
  |nil=>cases cs with
   |nil=>rfl
   |cons c cs=>exact h2.elim
  |cons x xs ih=>cases cs with
   |nil=>exact h2.elim
   |cons c cs=>rw[ih cs h2.2,show c=x from h2.1]
 rw[this]
theorem Wq{t u:TypeId}{y:Operand}{r:Bool}(xs ys:List Value)(ho:o.op= .binOp .eql t x y u)(hx:VL E x (agg (xs.map is)))(hy:VL E y (agg (ys.map is)))(hg:P.eqGuardType P.depth t=false)(hr:∀w,(Op.equal t (.agg xs.toArray) (.agg ys.toArray)).run P w= .ok r w):Af P I o E (bool r):=
 Af.same fun M w ac he _=>by
  have h1:=VF (hx.ev he Am);have h2:=VF (hy.ev he Am);exact⟨_,by simp[execOp,ho,h1,h2,eqGuard,hg,binOp,hr w],rfl⟩
theorem Wr{t u:TypeId}{y:Operand}{r:Bool}(xs ys:List Value)(ho:o.op= .binOp .neq t x y u)(hx:VL E x (agg (xs.map is)))(hy:VL E y (agg (ys.map is)))(hg:P.eqGuardType P.depth t=false)(hr:∀w,(Op.equal t (.agg xs.toArray) (.agg ys.toArray)).run P w= .ok r w):Af P I o E (bool (!r)):=
 Af.same fun M w ac he _=>by
  have h1:=VF (hx.ev he Am);have h2:=VF (hy.ev he Am);exact⟨_,by simp[execOp,ho,h1,h2,eqGuard,hg,binOp,hr w],rfl⟩
theorem eqS{P:Program}{t:TypeId}{fs:Array Field}{xs ys:Array Value}{r:Bool}(ht:P.underlying t=some (.struct fs))(hp:P.stoodInHeld t=false)(h:(Op.eqFields d xs ys fs.toList).run P w= .ok r w):(Op.equalIn (d+1) t (.agg xs) (.agg ys)).run P w= .ok r w:=by
 have hf:P.fieldsOf t=fs:=by unfold Program.fieldsOf;rw[ht]
 rw[run_equalIn_struct w d t xs ys (by rw[hf];exact ht) hp,hf];exact h
theorem cE{P:Program}{xs ys:Array Value}:(Op.eqFields d xs ys []).run P w= .ok true w:=by simp[Op.eqFields]
theorem NM {P : Program} {xs ys : Array Value} {f : Field} {fs : List Field} {vx vy : Value} {r q : Bool} (hn : f.name ≠ "_") (ha : (part f.type xs f.offset).run P w = .ok vx w) (hb : (part f.type ys f.offset).run P w = .ok vy w) (he : (Op.equalIn d f.type vx vy).run P w = .ok r w) (hr : (Op.eqFields d xs ys fs).run P w = .ok q w) : (Op.eqFields d xs ys (f :: fs)).run P w = .ok (r && q) w := by
 simp only[Op.eqFields,hn,ne_eq,not_false_eq_true,if_true,Sem.run_bind,ha,hb,he,Result.andThen_ok];cases r
 .simp
 .simpa using hr
theorem Ft{P:Program}{t:TypeId}{cs:Array Value}{off:Nat}(h1:EC P t=true)(hv:cs[off]? =some v):(part t cs off).run P w= .ok v w:=by
 simp[part,EZ h1,hv]
theorem NN{P:Program}{t:TypeId}{k:IntKind}{a b:Int}(h:P.underlying t=some (.int k)):(Op.equalIn (d+1) t (.int k a) (.int k b)).run P w= .ok (decide (a=b)) w:=by
 rw[run_equalIn_int w d t k k a b h];rfl
end
section
variable{P:Program}{L:Lg P}{E:Env}{I:Cj}{o:Oper}
theorem RR{sz:Nat}{A:Option Addr}{lo hi:Nat}(h:(slice sz rows).h M w (.slice A rows.length cap))(h1:lo<=hi)(h2:hi<=rows.length):
  (slice sz ((rows.take hi).drop lo)).h M w (.slice (if cap=lo then A else A.map (·.add (lo*sz))) (hi-lo) (cap-lo)):=by
 obtain⟨A',cap',hv,hc,hm,hA,hr⟩:=h
 injection hv with e1 _ e3
 subst e1;subst e3;have hlen:((rows.take hi).drop lo).length=hi-lo:=by rw[List.length_drop,List.length_take];omega
 refine⟨_,cap-lo,by rw[hlen],by rw[hlen];omega,by omega,fun h=>?_,fun i row hi'=>?_⟩
 .
  split at h
  .have:=hA h;omega
  .
   cases hA2:A with
   |none=>have:=hA hA2;omega
   |some a=>rw[hA2]at h;cases h
 .
  rw[List.getElem?_drop,List.getElem?_take]at hi'
  split at hi'
  .
   rename_i hlt
   obtain⟨h3,ad,h4,h5⟩:=hr _ row hi';subst h4;rw[if_neg AA];refine⟨h3,_,rfl,fun j p hp=>?_⟩;obtain⟨u,h6,h7,h8,h9⟩:=h5 j p hp;refine⟨u,?_,?_,h8,h9⟩
   .rw[add_add,show lo*sz+(i*sz+j)=(lo+i)*sz+j by rw[Nat.add_mul];omega];exact h6
   .rw[Ga,K9,show ad.off+lo*sz+(i*sz+j)=ad.off+((lo+i)*sz+j)by rw[Nat.add_mul];omega];exact h7
  .cases hi'
theorem E2{t e:TypeId}{y:Operand}{k:IntKind}{h:Int}{sz:Nat}(ho:o.op= .slice t x none (some y) none)(ht:P.underlying t=some (.slice e))(hz:Aw P e=some sz)(hx:VL E x (slice sz rows))(hy:VL E y (is (.int k h)))(h0:0<=h)(hl:h<=rows.length):
  Af P I o E (slice sz (rows.take h.toNat)):=
 Af.same fun M w a he _=>by
  have h1:=hx.ev he Am;have h3:a.eval y=_:=hy.ev he Am;obtain⟨A,cap,hv,hc,hm,hA,hr⟩:=h1;have h2:=RR (lo:=0) (hi:=h.toNat) (show(slice sz rows).h M w (.slice A rows.length cap)from⟨A,cap,rfl,hc,hm,hA,hr⟩) AA AA;refine⟨_,?_,by simpa using h2⟩;have hb:h<=(cap:Int):=by omega
  simp[execOp,ho,hv,h3,Instr.sliceAt,Instr.slice,run_underlying ht,Instr.sliceBounds,Instr.sliceBound,asIntOf,h0,hb,Bz hz]
theorem Db{t e:TypeId}{y:Operand}{k:IntKind}{l:Int}{sz:Nat}(ho:o.op= .slice t x (some y) none none)(ht:P.underlying t=some (.slice e))(hz:Aw P e=some sz)(hx:VL E x (slice sz rows))(hy:VL E y (is (.int k l)))(h0:0<=l)(hl:l<=rows.length):
  Af P I o E (slice sz (rows.drop l.toNat)):=
 Af.same fun M w a he _=>by
  have h1:=hx.ev he Am;have h3:a.eval y=_:=hy.ev he Am;obtain⟨A,cap,hv,hc,hm,hA,hr⟩:=h1;have h2:=RR (lo:=l.toNat) (hi:=rows.length) (show(slice sz rows).h M w (.slice A rows.length cap)from⟨A,cap,rfl,hc,hm,hA,hr⟩) AA (Nat.le_refl _);rw[List.take_length]at h2;refine⟨_,?_,h2⟩;simp[execOp,ho,hv,h3,Instr.sliceAt,Instr.slice,run_underlying ht,Instr.sliceBounds,Instr.sliceBound,asIntOf,h0,hl,Bz hz]
end
abbrev NO:Pr:=is (.tuple #[])
section
variable{P:Program}{L:Lg P}{n:Fm}{fz:Nat}{E:Env}{M0:Av}{w0:World}{S:Nat->Prop}{rs:List Ay}{o:Oper}{g:Func}{M1:Av}{w1:World}
theorem results0{g:Func}(hr:g.results= #[]):(results g a.tmps).run P w= .ok (.tuple #[]) w:=by
 rw[JX,hr];simp[Sem.run_bind]
theorem Fin.rC(hr:g.results= #[]):Fin ⟨fz,[]⟩ E (Hp M0 w0 Ju rs) (bodyPost P g (Sd M0 w0 NO)) .normal:=by
 rintro a w ⟨M,_,hd,he,hi⟩;obtain⟨h1,h2⟩:=CL.Eo M0 w0 M w hi;exact⟨hd,_,results0 hr,_,rfl,rfl,h2⟩
theorem Fin.ABz(hr:g.results= #[]):Fin ⟨fz,[]⟩ E (Hp M0 w0 Ju rs) (bodyPost P g (Sd M0 w0 NO)) .ret:=by
 rintro a w ⟨M,_,hd,he,hi⟩;obtain⟨h1,h2⟩:=CL.Eo M0 w0 M w hi;exact⟨hd,_,results0 hr,_,rfl,rfl,h2⟩
def cF(E:Env)(v0:Value)(q0:Pr):List Operand->List Pr->Prop
 |[],[]=>True
 |x::xs,p::ps=>(VL E x p\/(VL E x (is v0)/\Pr.le (Aj v0 q0) p))/\cF E v0 q0 xs ps
 |_,_=>False
theorem cF.ev{M M':Av}{w:World}{a:Act}{v0:Value}{q0:Pr}(he:C2 M w E o a)(hx:Ext M w M' w)(h0:q0.h M' w v0):∀{xs:List Operand} {ps:List Pr},(∀x∈xs,x∈o.op.operands.toList)->cF E v0 q0 xs ps->HL M' w ps (xs.map a.eval)
 |[],[],_,_=>trivial
 |[],_::_,_,h=>h.elim
 |_::_,[],_,h=>h.elim
 |x::xs,p::ps,hm,h=>by
  refine⟨?_,cF.ev he hx h0 (fun y hy=>hm y (List.mem_cons_of_mem _ hy)) h.2⟩;rcases h.1 with h1|⟨h1,h2⟩
  .exact p.st _ _ _ _ _ hx (h1.ev he (hm x Ai))
  .
   have h3:a.eval x=v0:=h1.ev he (hm x Ai);exact h2 _ _ _ ⟨h3,by rw[h3];exact h0⟩
class KM(p:Pr):Prop where
 free:∀M M' w v,p.h M w v->p.h M' w v
instance AD6 (u:Value):KM (is u):=⟨fun _ _ _ _ h=>h⟩
instance AAB (m:Nat):KM (lens m):=⟨fun _ _ _ _ h=>h⟩
end
def Lm(es:List (Value×Value)):Array MapEntry:=(es.zipIdx.map fun p=>({ key:=p.1.1,val:=p.1.2,born:=p.2 }:MapEntry)).toArray
theorem KO(es:List (Value×Value))(i:Nat):(Lm es)[i]? =(es[i]?).map fun p=>{ key:=p.1,val:=p.2,born:=i }:=by
 simp[Lm,List.getElem?_zipIdx];cases es[i]? <;>simp
theorem kO(es:List (Value×Value))(k v:Value):(Lm es).push { key:=k,val:=v,born:=es.length }=Lm (es++[(k,v)]):=by
 apply Array.toList_inj.1
 simp[Lm,List.zipIdx_append]
theorem rD{es:List (Value×Value)}(h:i<es.length)(k v:Value):((Lm es).modify i fun e=>{ e with key:=k,val:=v })=Lm (es.set i (k,v)):=by
 apply Array.ext_getElem?
 intro j;rw[Array.getElem?_modify,KO,KO,List.getElem?_set]
 by_cases hj:i=j
 .
  subst hj;simp[h]
 .simp[hj]
structure AFa(P:Program)(T kt et:TypeId){κ:Type}[DecidableEq κ](enc:κ->Value):Prop where
 und:P.underlying T=some (.map kt et)
 zero:∀w,(zeroValue et).run P w= .ok (.int .i64 0) w
 eq:∀a b w,(Op.equal kt (enc a) (enc b)).run P w= .ok (decide (a=b)) w
 chk:∀e a w,(Instr.checkKey e 10000 kt (enc a)).run P w= .ok () w
 xM:∃d,P.underlying kt=some d/\((∀a b,Instr.sameNow d (enc a) (enc b)=none)\/∀a b,Instr.sameNow d (enc a) (enc b)=some (decide (a=b)))
 bits:∀a,Instr.sameBits 10000 (enc a) (enc a)=true
section
variable{P:Program}{L:Lg P}{n:Fm}{fz:Nat}{E:Env}{M0:Av}{w0:World}{S:Nat->Prop}{rs:List Ay}{o:Oper}{κ:Type}[DecidableEq κ]{enc:κ->Value}
abbrev RS(enc:κ->Value)(es:List (κ×Int)):List (Value×Value):=es.map fun p=>(enc p.1,.int .i64 p.2)
def xN(enc:κ->Value)(b:Nat)(es:List (κ×Int)):Ay where
 blk:=some b
 new:=true
 h M w:=(∀o,M b o)/\w.heap[b]? =some (.map (Lm (RS enc es)) es.length)
 st M w M' w' he hk h:=by
  obtain⟨h1,h2⟩:=hk b rfl;exact⟨fun o=>h2 o (h.1 o),h1.trans h.2⟩
def look(es:List (κ×Int))(k:κ):Option Int:=(es.find? fun p=>decide (k=p.1)).map (·.2)
theorem BD.AB0{obj:Obj}{r:Ay}(h:BD M0 w0 S rs M w)(hb:r.blk=some w.heap.size)(hn:r.new=true)(hr:r.h (fun b o=>M b o\/b=w.heap.size) (w.alloc obj)):
  BD M0 w0 S (r::rs) (fun b o=>M b o\/b=w.heap.size) (w.alloc obj)/\Ext M w (fun b o=>M b o\/b=w.heap.size) (w.alloc obj):=by
 have hbl:Below w.heap.size w (w.alloc obj):=(Below.refl _ _).alloc (Nat.le_refl _) _;have hsz:(w.alloc obj).heap.size=w.heap.size+1:=by simp
 have he:Ext M w (fun b o=>M b o\/b=w.heap.size) (w.alloc obj):=by
  have h2:=Ext.below (M:=M) hbl;refine⟨h2.size,fun a v hc hm=>⟨fun hx=>?_,(h2.keep a v hc hm).2⟩,fun b o ho hp hm=>⟨fun hx=>?_,(h2.obj b o ho hp hm).2⟩⟩
  .
   rcases hx with hx|hx
   .exact DL
   .exact El
  .grind
 have hI:=(Hp M0 w0 S rs).st _ _ _ hbl h;refine⟨⟨hI.m0,fun b o hm=> .inl (hI.m b o hm),hI.os,hI.tape,hI.output,hI.size,hI.block,fun b o hm=>?_,fun r' hr'=>?_,?_⟩,he⟩
 .
  rcases hm with hm|hm
  .exact hI.bd b o hm
  .omega
 .
  rcases List.mem_cons.1 hr' with rfl|hr'
  .
   refine⟨hr,fun b hbk=>?_⟩;rw[hb]at hbk
   injection hbk with hbk
   subst hbk;exact⟨by omega,by rw[hn];simpa using h.size⟩
  .
   obtain⟨h3,h4⟩:=h.hold r' hr';exact⟨r'.st _ _ _ _ he (fun b hbk=>⟨hbl.block b (h4 b hbk).1,fun _ x=> .inl x⟩) h3,fun b hbk=>⟨by have:=(h4 b hbk).1;omega,(h4 b hbk).2⟩⟩
 .
  refine List.Pairwise.cons (fun r' hr' b hbk Ef=>?_) h.nd;rw[hb]at hbk
  injection hbk with hbk
  have:=((h.hold r' hr').2 b Ef).1;omega
def D6(w:World)(b:Nat)(o:Obj):World:={ w with heap:=w.heap.setIfInBounds b o }
theorem cH{b:Nat}{o:Obj}(h:b<w.heap.size):(D6 w b o).heap[b]? =some o:=by
 show(w.heap.setIfInBounds b o)[b]? =_;rw[Array.getElem?_setIfInBounds];simp[h]
theorem MI{b:Nat}{o:Obj}(h:k≠b):(D6 w b o).heap[k]? =w.heap[k]? :=by
 show(w.heap.setIfInBounds b o)[k]? =_;rw[Array.getElem?_setIfInBounds,if_neg (fun e=>h e.symm)]
theorem BD.AB1{obj:Obj}{r r':Ay}{b:Nat}(h:BD M0 w0 S rs M w)(hj:rs[j]? =some r)(hb:r.blk=some b)(hb':r'.blk=some b)(hn:r.new=true)(hn':r'.new=true)(hM:∀o,M b o)(hr:r'.h M (D6 w b obj)):
  BD M0 w0 S (rs.set j r') M (D6 w b obj)/\Ext M w M (D6 w b obj):=by
 have hlt:=((h.hold r (List.mem_of_getElem? hj)).2 b hb).1;have hsz:(D6 w b obj).heap.size=w.heap.size:=by simp[D6]
 have he:Ext M w M (D6 w b obj):=by
  refine⟨by omega,fun a v hc hm=>⟨hm,?_⟩,fun k o ho hp hm=>⟨hm,?_⟩⟩
  .rw[World.cell?_of_block (w:=w) (MI (fun e=>hm (by rw[e];exact hM _)))];exact hc
  .rw[MI (fun e=>hm (by rw[e];exact hM _))];exact ho
 refine⟨h.replace hj he rfl rfl rfl (fun k _ hk=>MI (fun e=>hk (by rw[hb,e]))) hn (fun _ _ hm _=>hm) (fun k o hm=>by rw[hsz];exact h.bd k o hm) hr hn' (fun k hk=>?_),he⟩;rw[hb']at hk
 injection hk with hk
 subst hk;exact⟨by omega,.inl hb⟩
variable{Q:Exit->Act->World->Prop}{ops:Array Oper}{r:List Oper}
theorem cI{β:Type}(p:β->Bool):∀l:List β,(l.findIdx? p).bind (fun j=>l[j]?)=l.find? p
 |[]=>rfl
 |a::l=>by
  have ih:=cI p l;rw[List.findIdx?_cons,List.find?_cons];cases h:p a with
  |true=>simp
  |false=>
   simp only[Bool.false_eq_true,if_false];rw[←ih];cases l.findIdx? p<;>simp
def TP(it b m:Nat)(seen:List Nat):Ay where
 blk:=some it
 new:=true
 h M w:=(∀o,M it o)/\w.heap[it]? =some (.mapIter (some b) m seen.toArray m)
 st M w M' w' he hk h:=by
  obtain⟨h1,h2⟩:=hk it rfl;exact⟨fun o=>h2 o (h.1 o),h1.trans h.2⟩
theorem TO.range{b:Nat}{kt et:TypeId}{es:List (κ×Int)}(hT:AFa P T kt et enc)(hg:o.guard=none)(hd:o.dst=some d)(hn:d<n)(ho:o.op= .range T x)(hx:VL E x (is (.map (some b))))(hj:rs[j]? =some (xN enc b es))(k:∀it,TO P n ops r ((d,ptr it 0)::E) (Hp M0 w0 S (TP it b es.length []::rs)) Q):TO P n ops (o::r) E (Hp M0 w0 S rs) Q:=
 TO.bT hg fun K M w a hsz hdf he hI hK=>by
  have h1:a.eval x=_:=hx.ev (o:=o) (Cq he) Am;obtain⟨_,hh⟩:=(BD.hold hI _ (List.mem_of_getElem? hj)).1;refine TO.val (v:= .pointer (some ⟨w.heap.size,0,none⟩)) (w':=w.alloc (.mapIter (some b) es.length #[] es.length)) ?_ ?_
  .simp[execOp,ho,h1,run_range_map w T kt et b _ _ hT.und hh]
  .
   obtain⟨h2,h3⟩:=BD.AB0 (obj:= .mapIter (some b) es.length #[] es.length) (r:=TP w.heap.size b es.length []) hI rfl rfl ⟨fun _=> .inr rfl,by rw[heap_alloc_new]⟩;refine hK _ _ _ _ (k w.heap.size) ⟨_,by rw[CC];exact hsz,by rw[put_defers];exact hdf,?_,h2⟩;intro s p hp;simp only[List.lookup]at hp
   by_cases hs:s=d
   .exact UR
   .
    rw[show(s==d)=false by simpa using hs]at hp;rw[hd,Ba hs];exact p.st _ _ _ _ _ h3 (he s p hp)
theorem mem_left{es:List (Value×Value)}{seen:List Nat}{e:MapEntry}:e∈(leftOf (Lm es) seen.toArray).toList↔∃q p,es[q]? =some p/\q∉seen/\e={ key:=p.1,val:=p.2,born:=q }:=by
 unfold leftOf;rw[Array.toList_filter,List.mem_filter];constructor
 .
  rintro⟨h1,h2⟩;obtain⟨q,hq⟩:=List.mem_iff_getElem?.1 h1;rw[Array.getElem?_toList,KO]at hq;cases hp:es[q]? with
  |none=>rw[hp]at hq;cases hq
  |some p=>
   rw[hp]at hq;simp only[Option.map_some,Option.some.injEq]at hq;subst hq;exact⟨q,p,hp,by simpa using h2,rfl⟩
 .
  rintro⟨q,p,hp,hq,rfl⟩;exact⟨List.mem_iff_getElem?.2 ⟨q,by rw[Array.getElem?_toList,KO,hp];rfl⟩,by simpa using hq⟩
theorem VG(ty:TypeId){it b:Nat}{seen:List Nat}{es:List (Value×Value)}(hm:es.length=m)(hit:w.heap[it]? =some (.mapIter (some b) m seen.toArray m))(hb:w.heap[b]? =some (.map (Lm es) m)):
  ((∀q,q<m->q∈seen)/\(Instr.next (.pointer (some ⟨it,0,none⟩)) false ty).run P w= .ok (.tuple #[.bool false]) w)\/
  ∃q p,es[q]? =some p/\q∉seen/\∃w1,(w1=w\/w1=w.drew)/\(Instr.next (.pointer (some ⟨it,0,none⟩)) false ty).run P w= .ok (.tuple #[.bool true,p.1,p.2]) (D6 w1 it (.mapIter (some b) m (seen++[q]).toArray m)):=by
 have hold:∀x∈(Lm es).toList,x.born<m:=by
  intro x hx;obtain⟨q,hq⟩:=List.mem_iff_getElem?.1 hx;rw[Array.getElem?_toList,KO]at hq;cases hp:es[q]? with
  |none=>rw[hp]at hq;cases hq
  |some p=>
   rw[hp]at hq;simp only[Option.map_some,Option.some.injEq]at hq;subst hq;show q<m;rcases Nat.lt_or_ge q es.length with h|h
   .omega
   .grind
 simp only[Instr.next,getObj,Sem.run_bind,Sem.run,hit,hb,Result.andThen,next_test_false seen.toArray (Lm es) m m hold (Nat.le_refl _),Bool.false_eq_true,if_false];have hleft:(Lm es).filter (fun e=> !seen.toArray.contains e.born)=leftOf (Lm es) seen.toArray:=rfl;rw[hleft];have hmem:∀x∈(leftOf (Lm es) seen.toArray).toList,x.born<m:=fun x hx=>by grind
 have hml:∀e,e∈(leftOf (Lm es) seen.toArray).toList↔∃q p,es[q]? =some p/\q∉seen/\e={ key:=p.1,val:=p.2,born:=q }:=fun e=>mem_left
 generalize leftOf (Lm es) seen.toArray=L at hmem hml ⊢
 have e1:L.filter (fun x=>decide (x.born<m))=L:=Array.filter_eq_self.2 (fun x hx=>by simpa using hmem x F_)
 have e2:L.filter (fun x=>decide (x.born≥m))= #[]:=by
  rw[Array.filter_eq_empty_iff];intro x hx;have:=hmem x F_;simp;omega
 simp only[e1,e2,Array.append_empty]
 by_cases h0:L.size=0
 .
  left;have hL:L= #[]:=Array.eq_empty_of_size_eq_zero h0;refine⟨fun q hq=>?_,?_⟩
  .
   rcases Classical.em (q∈seen)with h|h
   .exact h
   .
    have:=(hml { key:=(es[q]'(by omega)).1,val:=(es[q]'(by omega)).2,born:=q }).2 ⟨q,es[q]'(by omega),List.getElem?_eq_getElem AA,h,rfl⟩;rw[hL]at this;simp at this
  .
   subst hL;simp[choose,Sem.run,Question.forced]
 .
  right;have hne:L.isEmpty=false:=by simp[Array.isEmpty,h0]
  simp only[hne,Bool.false_eq_true,if_false,Array.empty_append,Array.size_map]
  have hch:∃(j:Nat) (w1:World),j<L.size/\(w1=w\/w1=w.drew)/\(choose (Question.mapNext L.size)).run P w= .ok j w1:=by
   by_cases hf:L.size<=1
   .exact⟨0,w,by omega,.inl rfl,by simp[choose,Sem.run,Question.forced,hf]⟩
   .
    exact⟨_,w.drew,Nat.mod_lt _ AA,.inr rfl,by
     simp only[choose,Sem.run,Question.forced,decide_eq_true_eq,hf,if_false,Question.cut]
     rfl⟩
  obtain⟨j,w1,hj,hal,hrun⟩:=hch;obtain⟨q,p,hq1,WW,hq3⟩:=(hml L[j]).1 Ai;refine⟨q,p,hq1,WW,w1,hal,?_⟩;have hw1:w1.heap=w.heap:=by rcases hal with rfl|rfl<;>rfl
  have Io:∀(o':Obj),(setObj it o').run P w1= .ok () (D6 w1 it o'):=fun o'=>by
   have AFb:w1.heap[it]? =some (.mapIter (some b) m seen.toArray m):=by rw[hw1];exact hit
   simp only[setObj,Sem.run,AFb];rfl
  simp only[hrun,Array.getElem?_map,Array.getElem?_eq_getElem hj,Option.map_some,Sem.run_bind,Io,Result.andThen];rw[hq3];simp
omit [DecidableEq κ] in
theorem TO.next{it b:Nat}{es:List (κ×Int)}{seen:List Nat}(hg:o.guard=none)(hd:o.dst=some d)(hn:d<n)(ho:o.op= .next x false)(hx:VL E x (ptr it 0))(hi:rs[i]? =some (TP it b es.length seen))(hj:rs[j]? =some (xN enc b es))(k1:(∀q,q<es.length->q∈seen)->TO P n ops r ((d,EB [bool false])::E) (Hp M0 w0 S rs) Q)(k2:∀q p,es[q]? =some p->q∉seen->TO P n ops r ((d,EB [bool true,is (enc p.1),int p.2])::E) (Hp M0 w0 S (rs.set i (TP it b es.length (seen++[q])))) Q):TO P n ops (o::r) E (Hp M0 w0 S rs) Q:=
 TO.bT hg fun K M w a hsz hdf he hI hK=>by
  have h1:a.eval x= .pointer (some ⟨it,0,none⟩):=hx.ev (o:=o) (Cq he) Am;obtain⟨⟨hMi,hit⟩,hbi⟩:=BD.hold hI _ (List.mem_of_getElem? hi);obtain⟨_,hh⟩:=(BD.hold hI _ (List.mem_of_getElem? hj)).1;have hlt:=(hbi it rfl).1;rcases VG (P:=P) o.type (es:=RS enc es) (by simp[RS]) hit hh with⟨h2,h3⟩|⟨q,p,h2,h3,w1,h4,h5⟩
  .
   refine TO.val (v:= .tuple #[.bool false]) (w':=w) ?_ ?_
   .simp[execOp,ho,h1,h3]
   .
    refine hK _ _ _ _ (k1 h2) ⟨M,by rw[CC];exact hsz,by rw[put_defers];exact hdf,?_,hI⟩;intro s p hp;simp only[List.lookup]at hp
    by_cases hs:s=d
    .subst hs;simp at hp;subst hp;rw[hd,B6 IZ];exact⟨_,rfl,rfl,trivial⟩
    .
     rw[show(s==d)=false by simpa using hs]at hp;rw[hd,Ba hs];exact he s p hp
  .
   have hes:∃p',es[q]? =some p'/\p=(enc p'.1,.int .i64 p'.2):=by
    simp only[RS,List.getElem?_map]at h2;cases h:es[q]? with
    |none=>rw[h]at h2;cases h2
    |some p'=>rw[h]at h2;simp at h2;exact⟨p',rfl,h2.symm⟩
   obtain⟨p',hp',rfl⟩:=hes;refine TO.val (v:= .tuple #[.bool true,enc p'.1,.int .i64 p'.2]) (w':=D6 w1 it (.mapIter (some b) es.length (seen++[q]).toArray es.length)) ?_ ?_
   .simp[execOp,ho,h1,h5]
   .
    have xO:Below w.heap.size w w1:=by
     rcases h4 with rfl|rfl
     .exact Below.refl _ _
     .exact(Below.refl _ _).drew
    have hI1:=(Hp M0 w0 S rs).st _ _ _ xO hI;obtain⟨h6,h7⟩:=BD.AB1 (obj:= .mapIter (some b) es.length (seen++[q]).toArray es.length) (r':=TP it b es.length (seen++[q])) hI1 hi rfl rfl rfl rfl hMi ⟨hMi,cH (Nat.lt_of_lt_of_le hlt xO.size)⟩;refine hK _ _ _ _ (k2 q p' hp' h3) ⟨M,by rw[CC];exact hsz,by rw[put_defers];exact hdf,?_,h6⟩;intro s p hp;simp only[List.lookup]at hp
    by_cases hs:s=d
    .subst hs;simp at hp;subst hp;rw[hd,B6 IZ];exact⟨_,rfl,rfl,rfl,rfl,trivial⟩
    .
     rw[show(s==d)=false by simpa using hs]at hp;rw[hd,Ba hs];exact p.st _ _ _ _ _ ((Ext.below xO).trans h7) (he s p hp)
omit [DecidableEq κ] in
theorem TO.entry{it b q:Nat}{es:List (κ×Int)}{seen:List Nat}{p:κ×Int}(hg:o.guard=none)(hd:o.dst=some d)(hn:d<n)(ho:o.op= .entry x)(hx:VL E x (ptr it 0))(hi:rs[i]? =some (TP it b es.length (seen++[q])))(hj:rs[j]? =some (xN enc b es))(hq:es[q]? =some p)(k:TO P n ops r ((d,EB [is (enc p.1),int p.2])::E) (Hp M0 w0 S rs) Q):TO P n ops (o::r) E (Hp M0 w0 S rs) Q:=
 TO.bT hg fun K M w a hsz hdf he hI hK=>by
  have h1:a.eval x= .pointer (some ⟨it,0,none⟩):=hx.ev (o:=o) (Cq he) Am;obtain⟨⟨_,hit⟩,_⟩:=BD.hold hI _ (List.mem_of_getElem? hi);obtain⟨_,hh⟩:=(BD.hold hI _ (List.mem_of_getElem? hj)).1;have hat:(Lm (RS enc es))[q]? =some { key:=enc p.1,val:= .int .i64 p.2,born:=q }:=by rw[KO];simp[RS,hq]
  have hnd:((Lm (RS enc es)).toList.map (·.born)).Nodup:=by
   have:(Lm (RS enc es)).toList.map (·.born)=List.range (RS enc es).length:=by
    apply List.ext_getElem?
    intro k;rw[List.getElem?_map,Array.getElem?_toList,KO]
    by_cases hk:k<(RS enc es).length
    .rw[List.getElem?_range hk,List.getElem?_eq_getElem hk];rfl
    .rw[List.getElem?_eq_none (Nat.le_of_not_lt hk),List.getElem?_eq_none (by simp at hk ⊢;omega)];rfl
   rw[this];exact List.nodup_range
  have hfind:(Lm (RS enc es)).find? (fun e=>e.born==q)=some { key:=enc p.1,val:= .int .i64 p.2,born:=q }:=by
   rw[←Array.find?_toList];exact find_born { key:=enc p.1,val:= .int .i64 p.2,born:=q } _ hnd (List.mem_iff_getElem?.2 ⟨q,by rw[Array.getElem?_toList];exact hat⟩)
  refine TO.val (v:= .tuple #[enc p.1,.int .i64 p.2]) (w':=w) ?_ ?_
  .
   have:(Instr.entry (.pointer (some ⟨it,0,none⟩))).run P w= .ok (.tuple #[enc p.1,.int .i64 p.2]) w:=by
    have hb:(seen++[q]).toArray.back? =some q:=by simp
    simp only[Instr.entry,getObj,Sem.run_bind,Sem.run,hit,hh,Result.andThen,hb,bne_self_eq_false,Bool.false_eq_true,if_false,hfind];rfl
   simp[execOp,ho,h1,this]
  .
   refine hK _ _ _ _ k ⟨M,by rw[CC];exact hsz,by rw[put_defers];exact hdf,?_,hI⟩;intro s p hp;simp only[List.lookup]at hp
   by_cases hs:s=d
   .subst hs;simp at hp;subst hp;rw[hd,B6 IZ];exact⟨_,rfl,rfl,rfl,trivial⟩
   .
    rw[show(s==d)=false by simpa using hs]at hp;rw[hd,Ba hs];exact he s p hp
end
section
variable{P:Program}{L:Lg P}
theorem rE{t:TypeId}{k:IntKind}{e:Bool}(ht:P.underlying t=some (.int k))(w:World):(Instr.checkKey e (d+1) t v).run P w= .ok () w:=by
 simp[Instr.checkKey,run_underlying ht]
end
section
variable{P:Program}{L:Lg P}{n:Fm}{fz:Nat}{E:Env}{M0:Av}{w0:World}{S:Nat->Prop}{rs:List Ay}{o:Oper}
theorem Pc(w:World)(A:Option Addr)(t ty e:TypeId)(i:TypeInfo)(z:Value)(ht:P.underlying t=some (.slice e))(hi:P.info? e=some i)(hz:i.zero=some z)
  (a:Addr) (n c:Nat) (news:List Value) (hl:news.length=n*i.size) (hnews:∀j v,news[j]? =some v->w.cell? (a.add j)=some v)
  (h0:0<n) (h63:(n:Int)<=9223372036854775807) (h48:n*i.bytes<=281474976710656):
  (Builtin.append_ #[t, t] ty #[.slice A 0 0, .slice (some a) n c]).run P w =
   .ok (.slice (some ⟨w.heap.size,0,none⟩) n (grownCap w n 0 e)) (w.drew.alloc (.cells (news.toArray++Builtin.zeroCells z.cells (grownCap w n 0 e-n)) e)):=by
 cases A with
 |none=>exact run_append_nil (w:=w) t ty e i z ht hi hz a n c news hl hnews h0 h63 h48
 |some b=>
  have:=run_append_grow (w:=w) t ty e i z ht hi hz b 0 0 [] Ai Ai a n c news hl hnews AA (by simpa using h63) (by rw[Nat.zero_add,nextslicecap_zero h0];exact h48)
  simpa using this
theorem kP{t ty e:TypeId}{sz bytes:Nat}{u:Value}(A:Option Addr)(ht:P.underlying t=some (.slice e))(hz:Aw P e=some sz)(hby:CW P e=some bytes)(Dw:BZ P e=some zs)(hzl:zs.length=sz)(hone:zs.all (·.oneCell')=true)(hsz:0<sz)(h:BD M0 w0 S rs M w)(hj:rs[j]? =some Bb)(hu:(slice sz rows).h M w u)(hpos:0<rows.length)(GA:rows.length<=maxLen)(hfit:rows.length*bytes<=140737488355328):
  ∃v' w' M',(Builtin.append_ #[t,t] ty #[.slice A 0 0,u]).run P w= .ok v' w'/\(lens rows.length).h M' w' v'/\Ext M w M' w'/\BD M0 w0 S (rs.set j (DQ e sz rows v')) M' w':=by
 unfold Aw at hz;unfold CW at hby;unfold BZ at Dw;cases hi:P.info? e with
 |none=>rw[hi]at hz;cases hz
 |some i=>
  rw[hi]at hz hby Dw;simp only[Option.map_some,Option.some.injEq,Option.map_eq_some_iff]at hz hby Dw;obtain⟨z,WK,Dw⟩:=Dw;have Uv:z.cells.size=sz:=by rw[←hzl,←Dw];simp
  obtain⟨A',c',rfl,bY,Uw,ij,Fh⟩:=hu;have LV:(slice sz rows).h M w (.slice A' rows.length c'):=⟨A',c',rfl,bY,Uw,ij,Fh⟩
  obtain⟨OH,rfl⟩:∃OH,A'=some OH:=by
   obtain⟨_,b,hb,_⟩:=Fh 0 _ (List.getElem?_eq_getElem hpos);exact⟨b,hb⟩
  obtain⟨news,hfl,hcell⟩:=Fg hsz LV;have hrun:=Pc (P:=P) w A t ty e i z ht hi WK OH rows.length c' news (by rw[hz];exact hfl.1) (fun k u hk=>(hcell k u hk).1) hpos P4 (by rw[hby];omega)
  generalize hcap:grownCap w rows.length 0 e=cap at hrun
  have hge:rows.length<=cap:=by rw[←hcap];exact grownCap_ge _ _ _ _
  have hle:cap<=maxLen:=by rw[←hcap];exact grownCap_le_maxLen _ _ _ _ GA
  generalize Sg:Builtin.zeroCells z.cells (cap-rows.length)=zc at hrun
  have hzs:zc.size=(cap-rows.length)*sz:=by rw[←Sg,size_zeroCells,Uv]
  have hzo:∀c∈zc.toList,c.oneCell'=true:=by rw[←Sg];exact Eb Dw hone
  have hb:Below w.heap.size w (w.drew.alloc (.cells (news.toArray++zc) e)):=((Below.refl _ _).drew).alloc (Nat.le_refl _) _;have h2:=Ext.below (M:=M) hb
  have EN:Ext M w (fun b o=>M b o\/b=w.heap.size) (w.drew.alloc (.cells (news.toArray++zc) e)):=by
   refine⟨h2.size,fun a v hc hm=>⟨fun hx=>?_,(h2.keep a v hc hm).2⟩,fun b o ho hp hm=>⟨fun hx=>?_,(h2.obj b o ho hp hm).2⟩⟩
   .
    rcases hx with hx|hx
    .exact DL
    .exact El
   .grind
  have hs1:(w.drew.alloc (.cells (news.toArray++zc) e)).heap.size=w.heap.size+1:=by simp
  refine⟨_,_,fun b o=>M b o\/b=w.heap.size,hrun,⟨_,_,rfl⟩,EN,?_⟩;refine h.replace hj EN hb.os hb.tape hb.output (fun k hk _=>hb.block k hk) rfl (fun b o hm _=> .inl hm) (fun b o hx=>?_) ?_ rfl (fun b hbk=>?_)
  .
   rcases hx with hx|hx
   .exact K8
   .omega
  .
   refine⟨w.heap.size,cap,zc.toList,rfl,hge,hle,by simpa using hzs,fun o=> .inr rfl,news++zc.toList,?_,?_,?_⟩
   .
    have hh:(w.drew.alloc (.cells (news.toArray++zc) e)).heap[w.heap.size]? =some (.cells (news.toArray++zc) e (0,0)):=heap_alloc_new w.drew _;rw[hh];simp
   .exact((hfl.st EN).hl hsz).app (NB _ _ _)
   .
    intro c hc;rcases List.mem_append.1 hc with hc|hc
    .exact hfl.2.1 c hc
    .exact hzo c hc
  .
   have Ef:some w.heap.size=some b:=hbk
   injection Ef with e1
   subst e1;exact⟨by rw[hs1];omega,.inr (Nat.le_refl _)⟩
theorem Gf{t e:TypeId}{y:Operand}{sz':Nat}{sz bytes:Nat}(hg:o.guard=none)(hd:o.dst=some d)(hn:d<n)(ho:o.op= .call { callee:= .builtin .append,args:= #[x,y],argTypes:= #[t,t] })(ht:P.underlying t=some (.slice e))(hz:Aw P e=some sz)(hby:CW P e=some bytes)(Dw:BZ P e=some zs)(hzl:zs.length=sz)(hone:zs.all (·.oneCell')=true)(hsz:0<sz)(hx:VL E x (full sz' []))(hy:VL E y (slice sz rows))(hpos:0<rows.length)(GA:rows.length<=maxLen)(hfit:rows.length*bytes<=140737488355328):D8 P M0 w0 S n j (SR.c Bb) ⟨d,DQ e sz rows⟩ o E (lens rows.length):=by
 refine⟨hg,fun M w a rs Ms he hI hj=>?_⟩;have h2:=hy.ev he CB;obtain⟨_,A,h1⟩:=hx.ev he CB;simp only[List.length_nil]at h1;obtain⟨v',w',M',hrun,h3,h4,h5⟩:=kP A (ty:=o.type) ht hz hby Dw hzl hone hsz hI hj h2 hpos GA hfit;have DV:(execOp a.eval o).run P w= .ok (.value v') w':=by simp[execOp,ho,resolve,invoke,builtin,h1,hrun]
 rw[DV];refine⟨M',h3,h4,?_⟩;have:(SR.at_ (a.put o.dst v') ⟨d,DQ e sz rows⟩)=DQ e sz rows v':=by unfold SR.at_ Slot.val;dsimp only;rw[hd,B6 HK]
 rw[this];exact h5
theorem ET{I:Cj}{t e:TypeId}{A:Option Addr}(ho:o.op= .call { callee:= .builtin .len,args:= #[x],argTypes:= #[t] })(ht:P.underlying t=some (.slice e))(hx:VL E x (is (.slice A m cap))):Af P I o E (int m):=
 Af.same fun M w a he _=>by
  have h1:a.eval x=_:=hx.ev he CB;exact⟨.int .i64 m,by simp[execOp,ho,resolve,invoke,builtin,Builtin.len_,h1,run_underlying ht,goInt],rfl⟩
theorem Fu{I:Cj}{t e:TypeId}{y:Operand}{k:IntKind}{h:Int}{sz b:Nat}(ho:o.op= .slice t x none (some y) none)(ht:P.underlying t=some (.slice e))(hz:Aw P e=some sz)(hx:VL E x (is (.slice (some ⟨b,0,none⟩) m cap)))(hy:VL E y (is (.int k h)))(h0:0<=h)(hl:h<=m)(hc:m<=cap)(h1m:0<cap):
  Af P I o E (is (.slice (some ⟨b,0,none⟩) h.toNat cap)):=
 Af.same fun M w a he _=>by
  have h1:a.eval x=_:=hx.ev he Am;have h3:a.eval y=_:=hy.ev he Am;have hb:h<=(cap:Int):=by omega
  refine⟨_,?_,rfl⟩;simp[execOp,ho,h1,h3,Instr.sliceAt,Instr.slice,run_underlying ht,Instr.sliceBounds,Instr.sliceBound,asIntOf,h0,hb,Bz hz];intro _;rfl
theorem CY{I:Cj}{t e:TypeId}{y:Operand}{k:IntKind}{l:Int}{sz b:Nat}(ho:o.op= .slice t x (some y) none none)(ht:P.underlying t=some (.slice e))(hz:Aw P e=some sz)(hx:VL E x (is (.slice (some ⟨b,0,none⟩) m cap)))(hy:VL E y (is (.int k l)))(h0:0<=l)(hl:l<m)(hc:m<=cap):
  Af P I o E (is (.slice (some ⟨b,l.toNat*sz,none⟩) (m-l.toNat) (cap-l.toNat))):=
 Af.same fun M w a he _=>by
  have h1:a.eval x=_:=hx.ev he Am;have h3:a.eval y=_:=hy.ev he Am;have hb:l<=(m:Int):=by omega
  have hne:¬cap=l.toNat:=by omega
  refine⟨_,?_,rfl⟩;simp[execOp,ho,h1,h3,Instr.sliceAt,Instr.slice,run_underlying ht,Instr.sliceBounds,Instr.sliceBound,asIntOf,h0,hb,Bz hz,hne,DE]
theorem rF{z:Array Value}(hz:z.toList=zs)(h0:0<zs.length):HL M w (List.replicate k (zs.map is)).flatten (Builtin.zeroCells z k).toList:=by
 have hlr:∀r∈List.replicate k (zs.map is),r.length=zs.length:=fun r hr=>by grind
 have hfl:=Cw hlr;rw[List.length_replicate]at hfl;have hzs:z.size=zs.length:=by rw[←hz];simp
 refine TN (by rw[Array.length_toList,size_zeroCells,hfl,hzs]) fun i p hi=>?_;have FC:i<k*zs.length:=by grind
 have hq:i/zs.length<k:=Nat.div_lt_of_lt_mul (by rw[Nat.mul_comm];exact FC);have hm:i % zs.length<zs.length:=Nat.mod_lt _ h0;have he:i/zs.length*zs.length+i % zs.length=i:=by rw[Nat.mul_comm];exact Nat.div_add_mod i _
 rw[←he,Jc hlr (by rw[List.getElem?_replicate,if_pos hq]) hm,List.getElem?_map,List.getElem?_eq_getElem hm]at hi;simp only[Option.map_some,Option.some.injEq]at hi;subst hi;refine⟨zs[i % zs.length],?_,rfl⟩;have hzl:i<k*z.size:=by rw[hzs];exact FC
 simp only[Builtin.zeroCells,Array.toList_map,Array.toList_range,List.getElem?_map];rw[List.getElem?_range hzl];subst hz;simp only[Option.map_some,Option.some.injEq];have hm':i % z.size<z.size:=by rw[hzs];exact hm
 rw[getElem!_pos z _ hm',←Array.getElem_toList]
 congr 1
theorem Ws{t e:TypeId}{b off sz:Nat}{ps':List Pr}(hg:o.guard=none)(ho:o.op= .call { callee:= .builtin .clear,args:= #[x],argTypes:= #[t] })(ht:P.underlying t=some (.slice e))(hz:Aw P e=some sz)(Dw:BZ P e=some zs)(hzl:zs.length=sz)(hone:zs.all (·.oneCell')=true)(hsz:0<sz)(hx:VL E x (is (.slice (some ⟨b,off,none⟩) m cap)))(hm:0<m)(hl:off+m*sz<=ps.length)(hps:ps.take off++(List.replicate m (zs.map is)).flatten++ps.drop (off+m*sz)=ps'):D8 P M0 w0 S n j (SR.c (AE new b T ps)) (SR.c (AE new b T ps')) o E any:=by
 refine⟨hg,fun M w a rs Ms he hI hj=>?_⟩;have h1:a.eval x=_:=hx.ev he CB;unfold BZ at Dw;cases hi:P.info? e with
 |none=>rw[hi]at Dw;cases Dw
 |some i=>
  rw[hi]at Dw;simp only[Option.map_eq_some_iff]at Dw;obtain⟨z,WK,Dw⟩:=Dw;have Uv:z.cells.size=sz:=by rw[←hzl,←Dw];simp
  obtain⟨⟨_,cs,h4,h5,h6⟩,_⟩:=hI.hold _ (List.mem_of_getElem? hj);have pK:=h5.length;have hzs:(Builtin.zeroCells z.cells m).size=m*sz:=by rw[size_zeroCells,Uv]
  have h3:∀c∈(Builtin.zeroCells z.cells m).toList,c.oneCell'=true:=Eb Dw hone
  have hrun:(storeCells ⟨b,off,none⟩ (Builtin.zeroCells z.cells m).toList 0).run P w= .ok () (w.setRow b (cs.take off++(Builtin.zeroCells z.cells m).toList++cs.drop (off+m*sz)).toArray):=by
   have:=run_storeCells_at (P:=P) b off T (Builtin.zeroCells z.cells m).toList 0 cs.toArray w h4 (by simp[hzs];omega) h3
   simpa[hzs]using this
  obtain⟨m',rfl⟩:∃m',m=m'+1:=⟨m-1,by omega⟩
  have DV:(execOp a.eval o).run P w= .ok (.value (.tuple #[])) (w.setRow b (cs.take off++(Builtin.zeroCells z.cells (m'+1)).toList++cs.drop (off+(m'+1)*sz)).toArray):=by
   simp[execOp,ho,h1,resolve,invoke,builtin,Builtin.clear_,run_underlying ht,zeroValue,typeInfo,hi,WK,hrun]
  rw[DV]
  obtain⟨h7, h8⟩ := BD.write (qs := ps') (cs := cs.take off ++ (Builtin.zeroCells z.cells (m' + 1)).toList ++ cs.drop (off + (m' + 1) * sz)) hI hj (by rw[← hps]; exact(((h5.take off).app (rF Dw AA))).app (h5.drop (off + (m' + 1) * sz)))
   (fun c hc=>by
    simp only[List.mem_append]at hc;rcases hc with(hc|hc)|hc
    .grind
    .exact h3 c hc
    .exact h6 c (List.mem_of_mem_drop hc))
  exact⟨M,trivial,h8,h7⟩
theorem Wt{β:Type}{f:β->List Pr}{l:List β}{sz:Nat}(hf:∀x,(f x).length=sz){x:β}(h:l[i]? =some x):((((l.map f).flatten++qs).drop (i*sz)).take sz)=f x:=by
 have hl:∀r∈l.map f,r.length=sz:=fun r hr=>by grind
 have hi:i<l.length:=by grind
 have hfl:=Cw hl;rw[List.length_map]at hfl;have hle:(i+1)*sz<=l.length*sz:=Nat.mul_le_mul_right sz hi;rw[Nat.add_mul,Nat.one_mul]at hle
 apply List.ext_getElem?
 intro k;rw[List.getElem?_take]
 split
 .
  rename_i hk
  rw[List.getElem?_drop,List.getElem?_append_left (by rw[hfl];omega),Jc hl (by rw[List.getElem?_map,h];rfl) hk]
 .grind
theorem OM{β:Type}{f:β->List Pr}{sz:Nat}(hf:∀x,(f x).length=sz):∀{l:List β} {qs:List Pr} {i:Nat} {x:β},i<l.length->((l.map f).flatten++qs).take (i*sz)++f x++((l.map f).flatten++qs).drop (i*sz+sz)=((l.set i x).map f).flatten++qs
 |[],_,_,_,h=>by simp at h
 |a::l,qs,0,x,_=>by
  simp only[List.map_cons,List.flatten_cons,Nat.zero_mul,List.take_zero,List.nil_append,Nat.zero_add,List.set_cons_zero];rw[←hf a,List.append_assoc,List.drop_left,List.append_assoc]
 |a::l,qs,i+1,x,h=>by
  have ih:=OM hf (l:=l) (qs:=qs) (i:=i) (x:=x) Fc;simp only[List.map_cons,List.flatten_cons,List.set_cons_succ];have e1:(i+1)*sz=(f a).length+i*sz:=by rw[hf a,Nat.add_mul];omega
  rw[List.append_assoc,List.append_assoc,e1,List.take_append,List.take_of_length_le AA,show(f a).length+i*sz-(f a).length=i*sz by omega,show(f a).length+i*sz+sz=(f a).length+(i*sz+sz)by omega,List.drop_append,List.drop_of_length_le AA,show(f a).length+(i*sz+sz)-(f a).length=i*sz+sz by omega,List.nil_append,List.append_assoc (f a) _ qs,←ih];simp only[List.append_assoc]
theorem TO.NL{Q:Exit->Act->World->Prop}{e:TypeId}{sz:Nat}(j:Nat)(hj:rs[j]? =some (DQ e sz rows v))(k:∀(b cap:Nat) (spare:List Value),v= .slice (some ⟨b,0,none⟩) rows.length cap->rows.length<=cap->cap<=maxLen->spare.length=(cap-rows.length)*sz->TO P n ops r E (Hp M0 w0 S (rs.set j (AE true b e (rows.flatten++spare.map is)))) Q):TO P n ops r E (Hp M0 w0 S rs) Q:=
 fun m hl a w hs=>let ⟨b,cap,spare,h1,h2,h3,h4,h5⟩:=hs.NL j hj;k b cap spare h1 h2 h3 h4 m hl a w h5
theorem TQ{β:Type}{f:β->List Pr}{l:List β}{sz:Nat}(hf:∀x,(f x).length=sz):((l.map f).flatten++qs).length=l.length*sz+qs.length:=by
 rw[List.length_append,Cw (sz:=sz) (fun r hr=>by obtain⟨y,_,rfl⟩:=List.mem_map.1 hr;exact hf y),List.length_map]
theorem Ar{β:Type}{f:β->List Pr}{l:List β}{sz:Nat}(hf:∀x,(f x).length=sz):∀r∈l.map f,r.length=sz:=by grind
theorem St.Sm{b sz:Nat}{e:TypeId}(j d:Nat)(hj:rs[j]? =some (AE true b e (rows.flatten++qs)))(hd:E.lookup d=some p)(hp:Pr.le p (is (.slice (some ⟨b,0,none⟩) rows.length cap)))(hl:∀r∈rows,r.length=sz)(hc:rows.length<=cap)(hm:cap<=maxLen)(hq:qs.length=(cap-rows.length)*sz)(h:St n E (Hp M0 w0 S rs) a w):St n ((d,Aj (.slice (some ⟨b,0,none⟩) rows.length cap) (slice sz rows))::E) (Hp M0 w0 S (rs.set j (Bc e sz (.slice (some ⟨b,0,none⟩) rows.length cap)))) a w:=by
 obtain⟨M,h1,h2,h3,h4⟩:=h;obtain⟨M',h5,h6,h7⟩:=BD.kN h4 hj hl hc hm hq;refine⟨M',h1,h2,fun s q hs=>?_,h6⟩;simp only[List.lookup]at hs
 split at hs
 .
  rename_i e1
  have:s=d:=by simpa using e1
  subst this;simp only[Option.some.injEq]at hs;subst hs;have h8:=hp _ _ _ (h3 _ _ hd);exact⟨h8,by rw[show a.tmps.getD s undef=_ from h8];exact h7⟩
 .exact q.st _ _ _ _ _ h5 (h3 s q hs)
theorem Tr.Sm{Q:Exit->Act->World->Prop}{c:Code}{b sz:Nat}{e:TypeId}(rows:List (List Pr))(j d:Nat)(hj:rs[j]? =some (AE true b e (rows.flatten++qs)))(hd:E.lookup d=some p)(hp:Pr.le p (is (.slice (some ⟨b,0,none⟩) rows.length cap)))(hl:∀r∈rows,r.length=sz)(hc:rows.length<=cap)(hm:cap<=maxLen)(hq:qs.length=(cap-rows.length)*sz)(k:Tr L n ((d,Aj (.slice (some ⟨b,0,none⟩) rows.length cap) (slice sz rows))::E) (Hp M0 w0 S (rs.set j (Bc e sz (.slice (some ⟨b,0,none⟩) rows.length cap)))) c Q):Tr L n E (Hp M0 w0 S rs) c Q:=
 Tr.conv (fun _ _ hs=>hs.Sm j d hj hd hp hl hc hm hq) k
theorem Fin.Sm{Q:Exit->Act->World->Prop}{x:Exit}{b sz:Nat}{e:TypeId}(rows:List (List Pr))(j d:Nat)(hj:rs[j]? =some (AE true b e (rows.flatten++qs)))(hd:E.lookup d=some p)(hp:Pr.le p (is (.slice (some ⟨b,0,none⟩) rows.length cap)))(hl:∀r∈rows,r.length=sz)(hc:rows.length<=cap)(hm:cap<=maxLen)(hq:qs.length=(cap-rows.length)*sz)(k:Fin n ((d,Aj (.slice (some ⟨b,0,none⟩) rows.length cap) (slice sz rows))::E) (Hp M0 w0 S (rs.set j (Bc e sz (.slice (some ⟨b,0,none⟩) rows.length cap)))) Q x):Fin n E (Hp M0 w0 S rs) Q x:=
 Fin.conv (fun _ _ hs=>hs.Sm j d hj hd hp hl hc hm hq) k
end
section
variable{P:Program}{L:Lg P}{n:Fm}{fz:Nat}{E:Env}{M0:Av}{w0:World}{S:Nat->Prop}{rs:List Ay}{o:Oper}{g:Func}{M1:Av}{w1:World}
def Gg(T:TypeId)(ps:List Pr)(v:Value):Ay:=match v with| .pointer (some a)=>AE true a.block T ps|_=>Bb
theorem Gh(hg:o.guard=none)(hd:o.dst=some d)(hn:d<n)(ho:o.op= .alloc T)(hz:BZ P T=some zs)(h1':zs.all (·.oneCell')=true):
  D8 P M0 w0 S n j (SR.c Bb) ⟨d,Gg T (zs.map is)⟩ o E (Cp.ex fun b=>ptr b 0):=by
 refine⟨hg,fun M w a rs Ms he hI hj=>?_⟩;have h1:∀c∈zs,c.oneCell'=true:=fun c hc=>List.all_eq_true.1 h1' c hc;obtain⟨z,JG,Wd⟩:=Wc hz w;have hrun:(execOp a.eval o).run P w= .ok (.value (.pointer (some ⟨w.heap.size,0,none⟩))) (w.alloc (.cells zs.toArray T)):=by simp[execOp,ho,Instr.alloc,JG,newVar,newRow,←Wd]
 rw[hrun];have hb:Below w.heap.size w (w.alloc (.cells zs.toArray T)):=(Below.refl _ _).alloc (Nat.le_refl _) _;have h2:=Ext.below (M:=M) hb
 have EN:Ext M w (fun b o=>M b o\/b=w.heap.size) (w.alloc (.cells zs.toArray T)):=by
  refine⟨h2.size,fun a v hc hm=>⟨fun hx=>?_,(h2.keep a v hc hm).2⟩,fun b o ho hp hm=>⟨fun hx=>?_,(h2.obj b o ho hp hm).2⟩⟩
  .
   rcases hx with hx|hx
   .exact DL
   .exact El
  .grind
 have hs1:(w.alloc (.cells zs.toArray T)).heap.size=w.heap.size+1:=by simp
 have hat:(SR.at_ (a.put o.dst (.pointer (some ⟨w.heap.size,0,none⟩))) ⟨d,Gg T (zs.map is)⟩)=AE true w.heap.size T (zs.map is):=by unfold SR.at_ Slot.val;dsimp only;rw[hd,B6 HK];rfl
 refine⟨fun b o=>M b o\/b=w.heap.size,⟨_,rfl⟩,EN,?_⟩;rw[hat];refine hI.replace hj EN hb.os hb.tape hb.output (fun k hk _=>hb.block k hk) rfl (fun b o hm _=> .inl hm) (fun b o hx=>?_) ?_ rfl (fun b hbk=>?_)
 .
  rcases hx with hx|hx
  .have:=hI.bd _ _ hx;omega
  .omega
 .refine⟨fun o=> .inr rfl,zs,heap_alloc_new w _,NB _ _ _,h1⟩
 .
  have Ef:some w.heap.size=some b:=hbk
  injection Ef with e1
  subst e1;exact⟨by rw[hs1];omega,.inr (Nat.le_refl _)⟩
theorem Gi{t:TypeId}{s:Tmp}{y:Operand}(hg:o.guard=none)(hd:o.dst=none)(ho:o.op= .store t (.tmp s) y)(hx:E.lookup s=some (Cp.ex fun b=>ptr b 0))(hy:VL E y (D7 qs))(hz:Aw P t=some m)(hm:qs.length=m)(hl:ps.length=m):D8 P M0 w0 S n j ⟨s,Gg T ps⟩ ⟨s,Gg T qs⟩ o E any:=by
 refine⟨hg,fun M w a rs hsz he hI hj=>?_⟩;have hxv:VL E (.tmp s) (Cp.ex fun b=>ptr b 0):=⟨_,hx,Pr.le_refl _⟩;obtain⟨b,h1'⟩:=hxv.ev he (show(Operand.tmp s)∈o.op.operands.toList by simp[ho,Op.operands]);have h1:a.eval (.tmp s)= .pointer (some ⟨b,0,none⟩):=h1';have h1t:a.tmps.getD s undef= .pointer (some ⟨b,0,none⟩):=h1
 have hj':rs[j]? =some (AE true b T ps):=by
  rw[hj];show some (Gg T ps (a.tmps.getD s undef))=_;rw[h1t];rfl
 obtain⟨h2,h3⟩:=hy.ev he (show y∈o.op.operands.toList by simp[ho,Op.operands]);obtain⟨⟨_,cs,h4,h5,h6⟩,_⟩:=hI.hold _ (List.mem_of_getElem? hj');have pK:=h5.length;have h2l:=h2.length;have hcells:(a.eval y).cells.size=m:=by rw[←hm,←h2l];simp
 have hrun:(storeCells ⟨b,0,none⟩ (a.eval y).cells.toList 0).run P w= .ok () (w.setRow b (cs.take 0++(a.eval y).cells.toList++cs.drop (0+m)).toArray):=by
  have:=run_storeCells_at (P:=P) b 0 T (a.eval y).cells.toList 0 cs.toArray w h4 Ci h3
  simpa[hcells]using this
 have AB2:cs.drop (0+m)=[]:=List.drop_eq_nil_of_le AA;rw[AB2,List.take_zero,List.nil_append,List.append_nil]at hrun
 have DV:(execOp a.eval o).run P w= .ok .skip (w.setRow b (a.eval y).cells.toList.toArray):=by
  simp only[execOp,ho,h1,Instr.storeAt,Instr.sureAddr,storeVar];simp[Bz hz,hcells,hrun]
 rw[DV];obtain⟨h7,h8⟩:=BD.write (qs:=qs) (cs:=(a.eval y).cells.toList) hI hj' h2 h3;refine⟨M,trivial,h8,?_⟩
 have hat:(SR.at_ (a.put o.dst undef) ⟨s,Gg T qs⟩)=AE true b T qs:=by
  rw[hd];show Gg T qs (a.tmps.getD s undef)=_;rw[h1t];rfl
 rw[hat];exact h7
theorem Fin.iq{Q:Exit->Act->World->Prop}{x:Exit}(s j:Nat){f:Value->Ay}(g:Nat->Ay)(hs:E.lookup s=some (Aj v (Cp.ex fun b=>ptr b 0)))(hi:rs[j]? =some (f v))(hf:∀b,f (.pointer (some ⟨b,0,none⟩))=g b)(k:∀b,Fin n ((s,ptr b 0)::E) (Hp M0 w0 S (rs.set j (g b))) Q x):Fin n E (Hp M0 w0 S rs) Q x:=by
 intro a w hst;obtain⟨M,h1,h2,he,h4⟩:=hst;obtain⟨h5,b,h6⟩:=he s _ hs;have hv:v= .pointer (some ⟨b,0,none⟩):=by rw[←h5];exact h6
 have hj:rs.set j (g b)=rs:=by
  have hjl:j<rs.length:=by grind
  rw[←hf b,←hv];rw[List.getElem?_eq_getElem hjl]at hi;simp at hi;rw[←hi,List.set_getElem_self]
 refine k b a w ⟨M,h1,h2,?_,by rw[hj];exact h4⟩;intro t q hq;simp only[List.lookup]at hq
 by_cases ht:t=s
 .grind
 .exact N_
end
section
variable{P:Program}{L:Lg P}{n:Fm}{fz:Nat}{E:Env}{M0:Av}{w0:World}{S:Nat->Prop}{rs:List Ay}{o:Oper}
def Ax(e:TypeId)(sz:Nat)(rows:List (List Pr))(v:Value):Ay where
 blk:=match v with| .slice (some a) _ _=>some a.block|_=>none
 new:=true
 h M w:=(rows=[]/\v= .slice none 0 0)\/(DQ e sz rows v).h M w
 st M w M' w' he hk h:=h.imp id fun h=>(DQ e sz rows v).st M w M' w' he hk h
theorem Tr.MJ{Q:Exit->Act->World->Prop}{c:Code}(e:TypeId)(sz:Nat)(k:Tr L n E (Hp M0 w0 S (Ax e sz [] (.slice none 0 0)::rs)) c Q):Tr L n E (Hp M0 w0 S rs) c Q:=
 Tr.conv (fun _ _ ⟨M,h1,h2,h3,h4⟩=>⟨M,h1,h2,h3,BD.JI h4 (r:=Ax e sz [] (.slice none 0 0)) rfl (Or.inl ⟨rfl,rfl⟩)⟩) k
theorem rG{t ty e:TypeId}{sz bytes:Nat}{rows':List (List Pr)}{u:Value}(ht:P.underlying t=some (.slice e))(hz:Aw P e=some sz)(hby:CW P e=some bytes)(Dw:BZ P e=some zs)(hzl:zs.length=sz)(hone:zs.all (·.oneCell')=true)(hsz:0<sz)(h:BD M0 w0 S rs M w)(hj:rs[j]? =some (Ax e sz rows v))(hl:∀r∈rows,r.length=sz)(hu:(slice sz rows').h M w u)(hpos:0<rows'.length)(GA:rows.length+rows'.length<=maxLen)(hfit:(rows.length+rows'.length)*bytes<=140737488355328):
  ∃v' w' M',(Builtin.append_ #[t,t] ty #[v,u]).run P w= .ok v' w'/\(lens (rows.length+rows'.length)).h M' w' v'/\Ext M w M' w'/\BD M0 w0 S (rs.set j (Ax e sz (rows++rows') v')) M' w':=by
 have hjl:j<rs.length:=by grind
 rcases(h.hold _ (List.mem_of_getElem? hj)).1 with⟨rfl,rfl⟩|xP
 .
  have h1:=h.DF (r':=Bb) hj rfl rfl trivial;have hj1:(rs.set j Bb)[j]? =some Bb:=List.getElem?_set_self hjl;obtain⟨v',w',M',hrun,h2,h3,h4⟩:=q_ (ty:=ty) ht hz hby Dw hzl hone hsz h1 hj1 hu hpos (by simpa using GA) (by simpa using hfit);rw[List.set_set]at h4;have h5:=h4.DF (r':=Ax e sz ([]++rows') v') (List.getElem?_set_self hjl) rfl rfl (.inr (h4.hold _ (List.mem_of_getElem? (List.getElem?_set_self hjl))).1);rw[List.set_set]at h5;exact⟨v',w',M',hrun,by simpa using h2,h3,h5⟩
 .
  obtain⟨b,cap,spare,rfl,hnc,hcm,hsp,cJ⟩:=xP;have hC:=h.DF (r':=AE true b e (rows.flatten++spare.map is)) hj rfl rfl cJ;have hjC:(rs.set j (AE true b e (rows.flatten++spare.map is)))[j]? =some (AE true b e (rows.flatten++spare.map is)):=List.getElem?_set_self hjl;obtain⟨⟨hMb,cs,vN,hcs,kQ⟩,pJ⟩:=hC.hold _ (List.mem_of_getElem? hjC);have hfl:=Cw hl;have ew:=hcs.length;rw[List.length_append,hfl,List.length_map,hsp,←Nat.add_mul,show rows.length+(cap-rows.length)=cap by omega]at ew;unfold Aw at hz;unfold CW at hby;unfold BZ at Dw;cases hi:P.info? e with
  |none=>rw[hi]at hz;cases hz
  |some i=>
   rw[hi]at hz hby Dw;simp only[Option.map_some,Option.some.injEq,Option.map_eq_some_iff]at hz hby Dw;obtain⟨z,WK,Dw⟩:=Dw;have Uv:z.cells.size=sz:=by rw[←hzl,←Dw];simp
   obtain⟨A',c',rfl,bY,Uw,ij,Fh⟩:=hu;have LV:(slice sz rows').h M w (.slice A' rows'.length c'):=⟨A',c',rfl,bY,Uw,ij,Fh⟩
   obtain⟨OH,rfl⟩:∃OH,A'=some OH:=by
    obtain⟨_,b,hb,_⟩:=Fh 0 _ (List.getElem?_eq_getElem hpos);exact⟨b,hb⟩
   obtain⟨news,TR,hcell⟩:=Fg hsz LV;have RT:=TR.1;have hnews:=TR.hl hsz
   have hT:HL M w rows.flatten (cs.take (rows.length*sz)):=by
    have:=hcs.take (rows.length*sz)
    rwa [←hfl,List.take_left,hfl]at this
   have hne:(.slice (some ⟨b,0,none⟩) (rows++rows').length cap:Value)= .slice (some ⟨b,0,none⟩) (rows.length+rows'.length) cap:=by rw[List.length_append]
   by_cases hroom:rows.length+rows'.length<=cap
   .
    have hle:(rows.length+rows'.length)*sz<=cap*sz:=Nat.mul_le_mul_right sz hroom;rw[Nat.add_mul]at hle;have hrun:=run_append_room (P:=P) (w:=w) t ty e i ht hi b rows.length cap cs.toArray vN OH rows'.length c' news (by rw[hz];exact RT) (fun k u hk=>(hcell k u hk).1) TR.2.1 hroom (by rw[hz,RT];simp;omega);rw[hz,RT]at hrun
    have hD:HL M w ((spare.drop (rows'.length*sz)).map is) (cs.drop (rows.length*sz+rows'.length*sz)):=by
     have:=hcs.drop (rows.length*sz+rows'.length*sz);have e1:(rows.flatten++spare.map is).drop (rows.length*sz+rows'.length*sz)=(spare.drop (rows'.length*sz)).map is:=by rw[←hfl,←List.drop_drop,List.drop_left,List.map_drop]
     rwa [e1]at this
    obtain⟨hW,hX⟩:=BD.write (qs:=rows.flatten++rows'.flatten++(spare.drop (rows'.length*sz)).map is) (cs:=cs.take (rows.length*sz)++news++cs.drop (rows.length*sz+rows'.length*sz)) hC hjC ((hT.app hnews).app hD) (fun c hc=>by
     simp only[List.mem_append]at hc;rcases hc with(hc|hc)|hc
     .grind
     .exact TR.2.1 c hc
     .exact kQ c (List.mem_of_mem_drop hc))
    rw[List.set_set]at hW;refine⟨_,_,M,hrun,⟨_,_,rfl⟩,hX,?_⟩
    have hW2 := hW.DF (r' := Ax e sz (rows ++ rows') (.slice (some ⟨b, 0, none⟩) (rows.length + rows'.length) cap)) (List.getElem?_set_self hjl) rfl rfl (.inr ⟨b, cap, spare.drop (rows'.length * sz), hne.symm, by rw[List.length_append]; exact hroom, hcm, by
     rw[List.length_drop,hsp,List.length_append,←Nat.sub_mul];congr 1;omega,by
     rw[List.flatten_append];exact(hW.hold _ (List.mem_of_getElem? (List.getElem?_set_self hjl))).1⟩)
    rw[List.set_set]at hW2;exact hW2
   .
    have hg:cap<rows.length+rows'.length:=by omega
    have holds:∀k u,(cs.take (rows.length*sz))[k]? =some u->w.cell? ((⟨b,0,none⟩:Addr).add k)=some u:=by
     intro k u hk;have hk2:cs[k]? =some u:=by grind
     rw[DE];simp[World.cell?,vN,hk2]
    have hto:(cs.take (rows.length*sz)).length=rows.length*sz:=by rw[List.length_take,ew];exact Nat.min_eq_left (Nat.mul_le_mul_right sz hnc)
    have hrun:=run_append_grow (P:=P) (w:=w) t ty e i z ht hi WK ⟨b,0,none⟩ rows.length cap (cs.take (rows.length*sz)) (by rw[hz];exact hto) holds OH rows'.length c' news (by rw[hz];exact RT) (fun k u hk=>(hcell k u hk).1) hg P4 (by rw[hby];exact growslice_fits hg hfit)
    generalize hcap:grownCap w (rows.length+rows'.length) cap e=cap' at hrun
    have hge:rows.length+rows'.length<=cap':=by rw[←hcap];exact grownCap_ge _ _ _ _
    have hle:cap'<=maxLen:=by rw[←hcap];exact grownCap_le_maxLen _ _ _ _ GA
    generalize Sg:Builtin.zeroCells z.cells (cap'-(rows.length+rows'.length))=zc at hrun
    have hzs:zc.size=(cap'-(rows.length+rows'.length))*sz:=by rw[←Sg,size_zeroCells,Uv]
    have hzo:∀c∈zc.toList,c.oneCell'=true:=by rw[←Sg];exact Eb Dw hone
    generalize xQ:((cs.take (rows.length*sz)).toArray++news.toArray++zc)=arr at hrun
    have Ip:arr.toList=cs.take (rows.length*sz)++news++zc.toList:=by rw[←xQ];simp
    have hb:Below w.heap.size w (w.drew.alloc (.cells arr e)):=((Below.refl _ _).drew).alloc (Nat.le_refl _) _;have h2:=Ext.below (M:=M) hb
    have EN:Ext M w (fun b o=>M b o\/b=w.heap.size) (w.drew.alloc (.cells arr e)):=by
     refine⟨h2.size,fun a v hc hm=>⟨fun hx=>?_,(h2.keep a v hc hm).2⟩,fun b o ho hp hm=>⟨fun hx=>?_,(h2.obj b o ho hp hm).2⟩⟩
     .
      rcases hx with hx|hx
      .exact DL
      .exact El
     .grind
    have hs1:(w.drew.alloc (.cells arr e)).heap.size=w.heap.size+1:=by simp
    refine⟨_,_,fun b o=>M b o\/b=w.heap.size,hrun,⟨_,_,rfl⟩,EN,?_⟩;refine h.replace hj EN hb.os hb.tape hb.output (fun k hk _=>hb.block k hk) rfl (fun b o hm _=> .inl hm) (fun b o hx=>?_) ?_ rfl (fun b hbk=>?_)
    .
     rcases hx with hx|hx
     .exact K8
     .omega
    .
     refine .inr ⟨w.heap.size,cap',zc.toList,by rw[List.length_append],by rw[List.length_append];exact hge,hle,by rw[List.length_append];simpa using hzs,fun o=> .inr rfl,arr.toList,?_,?_,?_⟩
     .
      have hh:(w.drew.alloc (.cells arr e)).heap[w.heap.size]? =some (.cells arr e (0,0)):=heap_alloc_new w.drew _;rw[hh]
     .rw[Ip,List.flatten_append];exact((hT.st EN).app ((TR.st EN).hl hsz)).app (NB _ _ _)
     .
      intro c hc;rw[Ip]at hc;simp only[List.mem_append]at hc;rcases hc with(hc|hc)|hc
      .grind
      .exact TR.2.1 c hc
      .exact hzo c hc
    .
     have Ef:some w.heap.size=some b:=hbk
     injection Ef with e1
     subst e1;exact⟨by rw[hs1];omega,.inr (Nat.le_refl _)⟩
theorem DN{t e:TypeId}{y:Operand}{sz bytes:Nat}{rows':List (List Pr)}(hg:o.guard=none)(hd:o.dst=some d)(hn:d<n)(ho:o.op= .call { callee:= .builtin .append,args:= #[x,y],argTypes:= #[t,t] })(ht:P.underlying t=some (.slice e))(hz:Aw P e=some sz)(hby:CW P e=some bytes)(Dw:BZ P e=some zs)(hzl:zs.length=sz)(hone:zs.all (·.oneCell')=true)(hsz:0<sz)(hx:VL E x (Aj v p))(hy:VL E y (slice sz rows'))(hl:∀r∈rows,r.length=sz)(hpos:0<rows'.length)(GA:rows.length+rows'.length<=maxLen)(hfit:(rows.length+rows'.length)*bytes<=140737488355328):D8 P M0 w0 S n j (SR.c (Ax e sz rows v)) ⟨d,Ax e sz (rows++rows')⟩ o E (lens (rows.length+rows'.length)):=by
 refine⟨hg,fun M w a rs Ms he hI hj=>?_⟩;have h1:a.eval x=v:=(hx.ev he CB).1;have h2:=hy.ev he CB;obtain⟨v',w',M',hrun,h3,h4,h5⟩:=rG (ty:=o.type) ht hz hby Dw hzl hone hsz hI hj hl h2 hpos GA hfit;have DV:(execOp a.eval o).run P w= .ok (.value v') w':=by simp[execOp,ho,resolve,invoke,builtin,h1,hrun]
 rw[DV];refine⟨M',h3,h4,?_⟩;have:(SR.at_ (a.put o.dst v') ⟨d,Ax e sz (rows++rows')⟩)=Ax e sz (rows++rows') v':=by unfold SR.at_ Slot.val;dsimp only;rw[hd,B6 HK]
 rw[this];exact h5
theorem BD.rH{sz:Nat}{e:TypeId}(h:BD M0 w0 S rs M w)(hj:rs[j]? =some (Ax e sz rows v))(hl:∀r∈rows,r.length=sz):
  ∃M',Ext M w M' w/\BD M0 w0 S (rs.set j (Bc e sz v)) M' w/\(slice sz rows).h M' w v:=by
 have hjl:j<rs.length:=by grind
 rcases(h.hold _ (List.mem_of_getElem? hj)).1 with⟨rfl,rfl⟩|xP
 .exact⟨M,Ext.refl _ _,h.DF hj rfl rfl Uk,AH sz M w _ rfl⟩
 .
  obtain⟨b,cap,spare,rfl,hnc,hcm,hsp,cJ⟩:=xP;have hC:=h.DF (r':=AE true b e (rows.flatten++spare.map is)) hj rfl rfl cJ;obtain⟨M',h1,h2,h3⟩:=BD.kN hC (List.getElem?_set_self hjl) hl hnc hcm (by rw[List.length_map];exact hsp);rw[List.set_set]at h2;exact⟨M',h1,h2,h3⟩
end
section
variable{P:Program}{L:Lg P}{n:Fm}{fz:Nat}{E:Env}{M0:Av}{w0:World}{S:Nat->Prop}{rs:List Ay}{o:Oper}{ops:Array Oper}{r:List Oper}
def AB3(P:Program)(f:FuncId)(args:List Pr)(res:Pr)(r:Ay)(r':Ay)(r2:Ay):Prop:=Entry P f/\∀M0 w0 S rs M w vs,BD M0 w0 S (r::r2::rs) M w->HL M w args vs->
 Calls P f vs.toArray w fun e w'=>∃v M',e= .returned v/\res.h M' w' v/\Ext M w M' w'/\BD M0 w0 S (r'::r2::rs) M' w'
theorem AB3.of {g : Func} {c : Code} {res : Pr} {R R' R2 : Ay} (hf : P.funcs[f]? = some g) (hb : g.body = some c) (hname : (g.name == "runtime.NumGoroutine") = false) (hlen : ps.length ≤ g.ntmps) (h : ∀ M0 w0 S rs M1 w1, Tr (YJ P) g.ntmps (L5 0 ps) (Hp M0 w0 S (R :: Ao M1 w1 :: R2 :: rs)) c (bodyPost P g (RI M0 w0 S (R2 :: rs) M1 w1 res (fun _ => R')))) : AB3 P f ps res R R' R2 := by
 refine⟨⟨g,hf,hname,by rw[hb];rfl⟩,fun M0 w0 S rs M w vs hI hv=>?_⟩;refine calls_of_wp hf hb (h M0 w0 S rs M w _ _ ⟨M,?_,rfl,Gb hv,?_⟩)
 .
  have:=hv.length;simp[this];omega
 .exact US
end
abbrev MK(k:IntKind):Pr:=Cp.ex fun i:Int=>is (.int k i)
theorem Eh(k:IntKind)(i:Int):Pr.le (is (.int k i)) (MK k):=fun _ _ _ h=>⟨i,h⟩
section
variable{P:Program}{L:Lg P}{I:Cj}{o:Oper}{E:Env}
theorem rI{op:BinOp}{t u:TypeId}{y:Operand}{k:IntKind}(hop:(op== .xor||op== .or)=true)(ho:o.op= .binOp op t x y u)(hx:VL E x (MK k))(hy:VL E y (MK k)):Af P I o E (MK k):=
 Af.same fun M w a he _=>by
  obtain⟨m,h1⟩:=hx.ev he Am;obtain⟨n,h2⟩:=hy.ev he Am;have h1:a.eval x= .int k m:=h1;have h2:a.eval y= .int k n:=h2;cases op<;>simp at hop<;>exact⟨_,by simp[execOp,ho,h1,h2,eqGuard,binOp,Op.intBits];rfl,_,rfl⟩
end
theorem TS{β:Type}{f:β->List Pr}{l:List β}{sz:Nat}(hf:∀x,(f x).length=sz){i:Int}(h:i.toNat<l.length):((((l.map f).flatten++qs).drop (0+i.toNat*sz)).take sz)=f (l[i.toNat]'h):=by
 rw[Nat.zero_add];exact Wt hf (List.getElem?_eq_getElem h)
theorem RU{β:Type}{f:β->List Pr}{sz:Nat}(hf:∀x,(f x).length=sz){l:List β}{i:Int}{x:β}(h:i.toNat<l.length):((l.map f).flatten++qs).take (0+i.toNat*sz)++f x++((l.map f).flatten++qs).drop (0+i.toNat*sz+sz)=((l.set i.toNat x).map f).flatten++qs:=by
 rw[Nat.zero_add];exact OM hf h
theorem RV{β:Type}{l:List β}{i j:Int}(hi:i.toNat<l.length)(hj:j.toNat<l.length):((l.set i.toNat (l[j.toNat]'hj)).set j.toNat (l[i.toNat]'hi)).Perm l:=List.set_set_perm hi hj
section
variable{P:Program}{L:Lg P}{n:Fm}{fz:Nat}{E:Env}{M0:Av}{w0:World}{S:Nat->Prop}{rs:List Ay}{o:Oper}{β:Type}{b:Nat}{e:TypeId}{f:β->List Pr}{qs:List Pr}{Φ:List β->Prop}
instance (priority:=300) AB4 (b:Bool)(p:Prop)[h:Fy b false p]:Fy (!b) true p:=⟨fun e=>h.HC (by simpa using e)⟩
instance (priority:=300) AB5 (b:Bool)(p:Prop)[h:Fy b true p]:Fy (!b) false p:=⟨fun e=>h.HC (by simpa using e)⟩
end
end Cp
namespace Cp
open Go.Sort
section
variable{β:Type}[Inhabited β]{c:β×β->Int}{st:List β}{a b i j:Int}
def ltc(c:β×β->Int)(x y:β):Bool:=decide (c (x,y)<0)
theorem gx(h:i.toNat<st.length):st.toArray[i.toNat]! =st[i.toNat]:=by simp[h]
theorem sw(hi:i.toNat<st.length)(hj:j.toNat<st.length):((st.set i.toNat (st[j.toNat]'hj)).set j.toNat (st[i.toNat]'hi)).toArray=swp st.toArray i.toNat j.toNat:=by
 unfold swp;rw[gx hi,gx hj];simp[Array.setIfInBounds_def,hi,hj]
omit [Inhabited β] in
theorem AB6{x y:β}(h:¬c (x,y)<0):ltc c x y=false:=decide_eq_false h
variable{hi F r:Int}
variable{lt:β->β->Bool}{a0 b0 m n:Nat}{l s s':Array β}
structure PS(lt:β->β->Bool)(a0 b0 a b:Nat)(l s:Array β):Prop where
 ha:a0<=a
 hab:a<=b
 hb:b<=b0
 hp:PermIn a0 b0 l s
 below:Below lt a b s
 out:∀i j,a0<=i->i<j->j<b0->(i<a\/b<=j)->lt s[j]! s[i]! =false
theorem PS.perm(h:PS lt a0 b0 m n l s)(hs:b0<=l.size)(hq:PermIn m n s s'):PS lt a0 b0 m n l s':=by
 have hsz:s.size=l.size:=h.hp.1;have hns:n<=s.size:=by have:=h.hb;omega
 refine⟨h.ha,h.hab,h.hb,permIn_trans _ _ _ _ _ h.hp (permIn_mono _ _ _ _ _ _ h.ha h.hb AA hq),Below.permA permIn_all hns h.below hq,fun i j h1 h2 h3 h4=>?_⟩;have hm:=h.hab
 by_cases hi:m<=i/\i<n
 .
  have hj:n<=j:=by omega
  rw[hq.2.1 j (.inr hj)];exact permIn_all s s' m n (fun x=>lt s[j]! x=false) hns hq (fun k hk1 hk2=>h.out k j (by have:=h.ha;omega) AA h3 (.inr hj)) i hi.1 hi.2
 .
  rw[hq.2.1 i AA]
  by_cases hj:m<=j/\j<n
  .exact permIn_all s s' m n (fun x=>lt x s[i]! =false) hns hq (fun k hk1 hk2=>h.out i k h1 AA (by have:=h.hb;omega) (.inl AA)) j hj.1 hj.2
  .rw[hq.2.1 j AA];exact h.out i j h1 h2 h3 h4
theorem PS.done(h:PS lt a0 b0 m n l s)(hs:SortedIn lt m n s):PermIn a0 b0 l s/\SortedIn lt a0 b0 s:=by
 refine⟨h.hp,fun i j h1 h2 h3=>?_⟩
 by_cases hh:i<m\/n<=j
 .exact h.out i j h1 h2 h3 hh
 .exact hs i j AA h2 AA
theorem PS.eq(hw:SWO lt)(h:PS lt a0 b0 m n l s)(hs:b0<=l.size){pv:β}{k:Nat}(hm:0<m)(Yf:lt s[m-1]! pv=false)(hk:m<k)(hkn:k<=n)(hq:PermIn m n s s')(h1:∀i,m<=i->i<k->lt pv s'[i]! =false)(h2:∀i,k<=i->i<n->lt pv s'[i]! =true):
  PS lt a0 b0 k n l s':=by
 have h':=h.perm hs hq
 have hle:∀j,m<=j->j<n->lt s'[j]! pv=false:=by
  intro j hj1 hj2
  by_cases hjk:k<=j
  .exact hw.asym (h2 j hjk hj2)
  .
   have hb:=h'.below;rcases hb with hb|hb
   .omega
   .
    have hb:=hb j hj1 hj2;rw[hq.2.1 (m-1) (.inl AA)]at hb;exact hw.ntrans _ _ _ hb Yf
 have key:∀i j,m<=i->i<k->m<=j->j<n->lt s'[j]! s'[i]! =false:=fun i j ha hb hc hd=>hw.ntrans _ _ _ (hle j hc hd) (h1 i ha hb);refine⟨by have:=h.ha;omega,hkn,h.hb,h'.hp,.inr fun i hi1 hi2=>key (k-1) i AA AA AA hi2,fun i j g1 g2 g3 g4=>?_⟩
 by_cases hh:i<m\/n<=j
 .exact h'.out i j g1 g2 g3 hh
 .exact key i j AA AA AA AA
structure kR(lt:β->β->Bool)(m n k:Nat)(s:Array β):Prop where
 h1:m<=k
 h2:k<n
 lo:∀i,m<=i->i<k->lt s[i]! s[k]! =true
 up:∀i,k<i->i<n->lt s[i]! s[k]! =false
theorem PS.left(hw:SWO lt){k:Nat}(h:PS lt a0 b0 m n l s)(hs:b0<=l.size)(hp:kR lt m n k s)(hq:PermIn m k s s')(hso:SortedIn lt m k s'):PS lt a0 b0 (k+1) n l s':=by
 obtain⟨h1,h2,lo,up⟩:=hp;have hsz:s.size=l.size:=h.hp.1;have hks:k<=s.size:=by have:=h.hb;omega
 have WW:PermIn m n s s':=permIn_mono _ _ _ _ _ _ (Nat.le_refl _) AA (by have:=h.hb;omega) hq;have h':=h.perm hs WW;have ek:s'[k]! =s[k]! :=hq.2.1 k (.inr (Nat.le_refl _));have lo':∀i,m<=i->i<k->lt s'[i]! s[k]! =true:=fun i g1 g2=>permIn_all s s' m k (fun x=>lt x s[k]! =true) hks hq lo i g1 g2;have up':∀i,k<i->i<n->lt s'[i]! s[k]! =false:=fun i g1 g2=>by rw[hq.2.1 i (.inr AA)];exact up i g1 g2
 refine⟨by have:=h.ha;omega,by omega,h.hb,h'.hp,.inr fun i g1 g2=>?_,fun i j g1 g2 g3 g4=>?_⟩
 .rw[show k+1-1=k by omega,ek];exact up' i AA g2
 .
  by_cases hh:i<m\/n<=j
  .exact h'.out i j g1 g2 g3 hh
  .
   rcases Nat.lt_trichotomy i k with hik|hik|hik
   .
    rcases Nat.lt_trichotomy j k with hjk|hjk|hjk
    .exact hso i j AA g2 hjk
    .subst hjk;rw[ek];exact hw.asym (lo' i AA hik)
    .exact bH
   .subst hik;rw[ek];exact up' j g2 AA
   .omega
theorem PS.right(hw:SWO lt){k:Nat}(h:PS lt a0 b0 m n l s)(hs:b0<=l.size)(hp:kR lt m n k s)(hq:PermIn (k+1) n s s')(hso:SortedIn lt (k+1) n s'):PS lt a0 b0 m k l s':=by
 obtain⟨h1,h2,lo,up⟩:=hp;have hsz:s.size=l.size:=h.hp.1;have hns:n<=s.size:=by have:=h.hb;omega
 have WW:PermIn m n s s':=permIn_mono _ _ _ _ _ _ AA (Nat.le_refl _) hns hq;have h':=h.perm hs WW;have ek:s'[k]! =s[k]! :=hq.2.1 k (.inl AA);have lo':∀i,m<=i->i<k->lt s'[i]! s[k]! =true:=fun i g1 g2=>by rw[hq.2.1 i (.inl AA)];exact lo i g1 g2
 have up':∀i,k<i->i<n->lt s'[i]! s[k]! =false:=fun i g1 g2=>permIn_all s s' (k+1) n (fun x=>lt x s[k]! =false) hns hq (fun i q1 q2=>up i AA q2) i AA g2;refine⟨h.ha,h1,by have:=h.hb;omega,h'.hp,?_,fun i j g1 g2 g3 g4=>?_⟩
 .
  rcases h'.below with hb|hb
  .exact .inl hb
  .exact .inr fun i q1 q2=>hb i q1 AA
 .
  by_cases hh:i<m\/n<=j
  .exact h'.out i j g1 g2 g3 hh
  .
   rcases Nat.lt_trichotomy i k with hik|hik|hik
   .
    rcases Nat.lt_trichotomy j k with hjk|hjk|hjk
    .omega
    .subst hjk;rw[ek];exact hw.asym (lo' i AA hik)
    .exact bH
   .subst hik;rw[ek];exact up' j g2 AA
   .exact hso i j AA g2 AA
end
section
variable{β:Type}[Inhabited β]{c:β×β->Int}{st:List β}
def Adj(c:β×β->Int)(a b:Int)(l:List β):Prop:=∀k,a.toNat<k->k<b.toNat->ltc c l.toArray[k]! l.toArray[k-1]! =false
theorem Adj.go{a i k:Int}(h:Adj c a i st)(h0:0<=a)(ha:a<i)(hk:k=i-1)(hi:i.toNat<st.length)(hk':k.toNat<st.length)(hc:0<=c (st[i.toNat]'hi,st[k.toNat]'hk')):Adj c a (i+1) st:=fun m h1 h2=>by
 rcases Nat.lt_or_ge m i.toNat with hm|hm
 .exact h m h1 hm
 .
  have e:m=i.toNat:=by omega
  subst e;rw[show i.toNat-1=k.toNat by omega,gx hi,gx hk'];exact AB6 AA
end
section
variable{β:Type}[Inhabited β]
def IG(a b:Int)(l st:List β):Prop:=PermIn a.toNat b.toNat l.toArray st.toArray
def vO(c:β×β->Int)(a b:Int)(l st:List β):Prop:=PermIn a.toNat b.toNat l.toArray st.toArray/\SortedIn (ltc c) a.toNat b.toNat st.toArray
theorem IG.len{a b:Int}{l st:List β}(h:IG a b l st):st.length=l.length:=by have:=h.1;simpa using this
theorem vO.len{c:β×β->Int}{a b:Int}{l st:List β}(h:vO c a b l st):st.length=l.length:=by have:=h.1.1;simpa using this
def vP(c:β×β->Int)(hi first lo:Int)(l st:List β):Prop:=st.length=l.length/\st.toArray=siftDown (ltc c) hi.toNat first.toNat lo.toNat l.toArray
theorem vP.len{c:β×β->Int}{hi first lo:Int}{l st:List β}(h:vP c hi first lo l st):st.length=l.length:=h.1
abbrev PE(c:β×β->Int)(a b pv:Int)(l:List β):Nat×Array β:=partitionEqual (ltc c) l.toArray a.toNat b.toNat pv.toNat
abbrev PA(c:β×β->Int)(a b pv:Int)(l:List β):Nat×Bool×Array β:=partition (ltc c) l.toArray a.toNat b.toNat pv.toNat
def vQ(c:β×β->Int)(a b pv:Int)(l st:List β):Prop:=st.length=l.length/\st.toArray=(PE c a b pv l).2
def vR(c:β×β->Int)(a b pv:Int)(l st:List β):Prop:=st.length=l.length/\st.toArray=(PA c a b pv l).2.2
theorem vQ.len{c:β×β->Int}{a b pv:Int}{l st:List β}(h:vQ c a b pv l st):st.length=l.length:=h.1
theorem vR.len{c:β×β->Int}{a b pv:Int}{l st:List β}(h:vR c a b pv l st):st.length=l.length:=h.1
theorem IG.refl(a b:Int)(l:List β):IG a b l l:=permIn_refl _ _ _
theorem IG.swap{a b i j:Int}{l st:List β}(h:IG a b l st)(hi:i.toNat<st.length)(hj:j.toNat<st.length)(h1:a.toNat<=i.toNat)(h2:i.toNat<b.toNat)(h3:a.toNat<=j.toNat)(h4:j.toNat<b.toNat)(hb:b.toNat<=l.length):
  IG a b l ((st.set i.toNat (st[j.toNat]'hj)).set j.toNat (st[i.toNat]'hi)):=by
 unfold IG;rw[sw hi hj];exact permIn_trans _ _ _ _ _ h (swp_permIn _ _ _ _ _ h1 h2 h3 h4 (by have:=h.len;simp;omega))
theorem IG.trans{a b:Int}{l m st:List β}(h:IG a b l m)(k:IG a b m st):IG a b l st:=permIn_trans _ _ _ _ _ h k
theorem IG.whole{l st:List β}(h:IG 0 l.length l st):st.Perm l:=by
 have:=h.2.2;have e:=h.len
 rwa [show((l.length:Nat):Int).toNat=l.toArray.size by simp,show(0:Int).toNat=0 from rfl,Array.extract_size,show l.toArray.size=st.toArray.size by simp[e],Array.extract_size]at this
end
section
open Go
variable{P:Program}{L:Lg P}{n:Fm}{fz:Nat}{E:Env}{M0:Av}{w0:World}{S:Nat->Prop}{rs:List Ay}{new:Bool}{b:Nat}{T:TypeId}{ps:List Pr}
theorem St.leC(j:Nat)(qs:List Pr)(hj:rs[j]? =some (AE new b T ps))(hl:Hh ps qs){a:Act}{w:World}(h:St n E (Hp M0 w0 S rs) a w):St n E (Hp M0 w0 S (rs.set j (AE new b T qs))) a w:=by
 obtain⟨M,h1,h2,h3,h4⟩:=h;have h4:BD M0 w0 S rs M w:=h4;obtain⟨hM,cs,hb,hc,ho⟩:=(h4.hold _ (List.mem_of_getElem? hj)).1;exact⟨M,h1,h2,h3,h4.DF hj rfl rfl ⟨hM,cs,hb,hl.hl hc,ho⟩⟩
theorem Tr.leC{Q:Exit->Act->World->Prop}{c:Code}(j:Nat)(qs:List Pr)(hj:rs[j]? =some (AE new b T ps))(hl:Hh ps qs)(k:Tr L n E (Hp M0 w0 S (rs.set j (AE new b T qs))) c Q):Tr L n E (Hp M0 w0 S rs) c Q:=Tr.conv (fun _ _ hs=>hs.leC j qs hj hl) k
end
end Cp
namespace Cp
open Go Go.RowKit Go.Great
variable{a:Act}{ops:Array Oper}{ts:Array TypeId}{M:Av}{new:Bool}{f:FuncId}{rows:List (List Pr)}{r:List Oper}{ps qs:List Pr}{sp zs:List Value}{cap d i j k m:Nat}{x:Operand}{p:Pr}{T:TypeId}{v:Value}{w:World}
section
variable{P:Program}{L:Lg P}{n:Fm}{fz:Nat}{E:Env}{I:Cj}{Q:Exit->Act->World->Prop}
theorem Tr.rJ{α0:Type}(K:Env)(hK:C6 E K)(F:α0->Env)(Ii:α0->Cj)(C:α0->Prop){x y:Code}(h:Tr L n E I x (Exit.then (fun a w=>∃x0,C x0/\St n (F x0++K) (Ii x0) a w) Q))
  (k:∀x0,C x0->Tr L n (F x0++K) (Ii x0) y Q):Tr L n E I (.seq x y) Q:=
 Tr.cut (fun y:α0=>F y++K) (fun y=>Ii y) (fun y=>C y) (Tr.post h fun e a w h=>by cases e<;>first|exact h|(obtain⟨x0,h1,h2⟩:=h;exact⟨x0,h1,h2⟩)) fun y hy=>k y hy
theorem Tr.QI{α0 α1:Type}(K:Env)(hK:C6 E K)(F:α0->α1->Value->Env)(Ii:α0->α1->Value->Cj)(C:α0->α1->Prop){x y:Code}(h:Tr L n E I x (Exit.then (fun a w=>∃x0 x1 v0,C x0 x1/\St n (F x0 x1 v0++K) (Ii x0 x1 v0) a w) Q))
  (k:∀x0 x1 v0,C x0 x1->Tr L n (F x0 x1 v0++K) (Ii x0 x1 v0) y Q):Tr L n E I (.seq x y) Q:=
 Tr.cut (fun y:α0×α1×Value=>F y.1 y.2.1 y.2.2++K) (fun y=>Ii y.1 y.2.1 y.2.2) (fun y=>C y.1 y.2.1) (Tr.post h fun e a w h=>by cases e<;>first|exact h|(obtain⟨x0,x1,v0,h1,h2⟩:=h;exact⟨(x0,x1,v0),h1,h2⟩)) fun y hy=>k y.1 y.2.1 y.2.2 hy
end
section
variable{P:Program}{L:Lg P}{n:Fm}{fz:Nat}{E:Env}{M0:Av}{w0:World}{S:Nat->Prop}{rs:List Ay}{β:Type}{e:TypeId}{sz:Nat}{f:β->List Pr}{Φ:List β->Prop}{v:Value}
theorem St.VH(j d:Nat)(hj:rs[j]? =some (Ax e sz rows v))(hd:E.lookup d=some (Aj v p))(hf:∀r∈rows,r.length=sz)(hs:St n E (Hp M0 w0 S rs) a w):
  St n ((d,Aj v (slice sz rows))::E) (Hp M0 w0 S (rs.set j (Bc e sz v))) a w:=by
 obtain⟨M,h1,h2,h3,h4⟩:=hs;have h4:BD M0 w0 S rs M w:=h4;obtain⟨M',h6,h7,h8⟩:=BD.rH h4 hj hf;refine⟨M',h1,h2,fun s q hq=>?_,h7⟩;simp only[List.lookup]at hq
 split at hq
 .
  rename_i e1
  have:s=d:=by simpa using e1
  subst this;simp only[Option.some.injEq]at hq;subst hq;have h9:=(h3 _ _ hd).1;exact⟨h9,by rw[h9];exact h8⟩
 .exact q.st _ _ _ _ _ h6 (h3 s q hq)
theorem Tr.VH{Q:Exit->Act->World->Prop}{c:Code}(j d:Nat)(hj:rs[j]? =some (Ax e sz rows v))(hd:E.lookup d=some (Aj v p))(hf:∀r∈rows,r.length=sz)(k:Tr L n ((d,Aj v (slice sz rows))::E) (Hp M0 w0 S (rs.set j (Bc e sz v))) c Q):Tr L n E (Hp M0 w0 S rs) c Q:=
 fun a w hs=>k a w (hs.VH j d hj hd hf)
theorem I4(h:rows=[]):Pr.le (is (.slice none 0 0)) (Aj (.slice none 0 0) (lens rows.length)):=by
 subst h;exact fun _ _ _ hv=>⟨hv,⟨none,0,by rw[hv];rfl⟩⟩
theorem CT{v:Value}{a b:Nat}(h:a=b):Pr.le (Aj v (lens a)) (Aj v (lens b)):=by subst h;exact Pr.le_refl _
end
section
variable{P:Program}{L:Lg P}{n:Fm}{fz:Nat}{E:Env}{M0:Av}{w0:World}{S:Nat->Prop}{rs:List Ay}{o:Oper}
end
section
variable{P:Program}{L:Lg P}{n:Fm}{fz:Nat}{E:Env}{M0:Av}{w0:World}{S:Nat->Prop}{rs:List Ay}{ε:Type}{res:ε->List Ay}
def iw(res:ε->List Ay)(es:List ε):List Ay:=es.flatMap res
theorem VI:∀{es:List ε} {k:Nat} {x:ε},es[k]? =some x->(iw res es).Perm (res x++iw res (es.eraseIdx k))
 |[],_,_,h=>by simp at h
 |a::es,0,x,h=>by
  simp only[List.getElem?_cons_zero,Option.some.injEq]at h;subst h;exact List.Perm.refl _
 |a::es,k+1,x,h=>by
  have ih:=VI (es:=es) (k:=k) (x:=x) Fc;show(res a++iw res es).Perm (res x++(res a++iw res (es.eraseIdx k)));refine(ih.append_left (res a)).trans ?_;rw[←List.append_assoc,←List.append_assoc];exact List.perm_append_comm.append_right _
theorem Yw{a b c:List Ay}(h:b.Perm c):(a++b).Perm (a++c):=h.append_left a
theorem St.perm{rs':List Ay}(hp:rs.Perm rs')(h:St n E (Hp M0 w0 S rs) a w):St n E (Hp M0 w0 S rs') a w:=by
 obtain⟨M,h1,h2,h3,h4⟩:=h;exact⟨M,h1,h2,h3,BD.perm hp h4⟩
theorem Tr.focus{Q:Exit->Act->World->Prop}{c:Code}(vS:List Ay){es:List ε}{x:ε}(hx:es[k]? =some x)(hrs:rs=vS++iw res es)(kk:Tr L n E (Hp M0 w0 S (res x++(vS++iw res (es.eraseIdx k)))) c Q):Tr L n E (Hp M0 w0 S rs) c Q:=
 Tr.conv (fun _ _ hs=>hs.perm (by
  subst hrs;refine(Yw (VI hx)).trans ?_;rw[←List.append_assoc,←List.append_assoc]
  exact List.perm_append_comm.append_right _)) kk
theorem Yx{β:Type}{f:β->List Pr}{l:List β}{sz:Nat}(hf:∀x,(f x).length=sz){x y:β}(h:l[i]? =some x)(hj:j<sz)(hy:(f x).set j p=f y):
  ((l.map f).flatten++qs).take (i*sz+j)++[p]++((l.map f).flatten++qs).drop (i*sz+j+1)=((l.set i y).map f).flatten++qs:=by
 have FC:i<l.length:=by rcases Nat.lt_or_ge i l.length with h'|h';exact h';rw[List.getElem?_eq_none h']at h;cases h
 have h1:=OM (f:=f) (qs:=qs) (x:=y) hf FC;have h2:=Wt (qs:=qs) hf h;have hfl:=hf x;have hfy:=hf y;rw[←h1]
 generalize hz:(l.map f).flatten++qs=z at*
 have hzl:i*sz+sz<=z.length:=by
  have:=congrArg List.length h2;rw[List.length_take,List.length_drop,hfl]at this;omega
 have e1:z.take (i*sz+j)++[p]++z.drop (i*sz+j+1)=z.set (i*sz+j) p:=by
  rw[List.set_eq_take_append_cons_drop,if_pos AA];simp
 rw[e1];refine List.ext_getElem? fun m=>?_;have Wd:∀q,q<sz->z[i*sz+q]? =(f x)[q]? :=fun q hq=>by rw[←h2,List.getElem?_take,if_pos hq,List.getElem?_drop]
 have htl:(z.take (i*sz)).length=i*sz:=by rw[List.length_take];omega
 rw[List.append_assoc];rcases Nat.lt_or_ge m (i*sz)with hm|hm
 .rw[List.getElem?_set_ne AA,List.getElem?_append_left AA,List.getElem?_take,if_pos hm]
 .
  obtain⟨q,rfl⟩:∃q,m=i*sz+q:=⟨m-i*sz,by omega⟩;rw[List.getElem?_append_right AA,htl,Nat.add_sub_cancel_left];rcases Nat.lt_or_ge q sz with hq|hq
  .
   rw[List.getElem?_append_left AA,←hy]
   by_cases hqj:q=j
   .
    subst hqj;rw[List.getElem?_set_self AA,List.getElem?_set_self AA]
   .rw[List.getElem?_set_ne AA,List.getElem?_set_ne AA,Wd q hq]
  .
   rw[List.getElem?_append_right AA,hfy,List.getElem?_drop,List.getElem?_set_ne AA]
   congr 1;omega
theorem Tr.AB7{Q:Exit->Act->World->Prop}{c:Code}{e:TypeId}{sz:Nat}(j:Nat)(hj:rs[j]? =some (Ax e sz rows v))(hne:rows≠[])(k:∀(b cap:Nat) (sp:List Value),v= .slice (some ⟨b,0,none⟩) rows.length cap->rows.length<=cap->cap<=maxLen->sp.length=(cap-rows.length)*sz->Tr L n E (Hp M0 w0 S (rs.set j (AE true b e (rows.flatten++sp.map is)))) c Q):Tr L n E (Hp M0 w0 S rs) c Q:=by
 intro a w hs;obtain⟨M,h1,h2,h3,h4⟩:=hs;have h4:BD M0 w0 S rs M w:=h4;rcases(h4.hold _ (List.mem_of_getElem? hj)).1 with⟨h5,_⟩|⟨b,cap,sp,rfl,h5,h6,h7,h8⟩
 .exact absurd h5 hne
 .exact k b cap sp rfl h5 h6 h7 a w ⟨M,h1,h2,h3,h4.DF hj rfl rfl h8⟩
theorem St.ML{e:TypeId}{sz b:Nat}(j:Nat)(hj:rs[j]? =some (AE true b e (rows.flatten++sp.map is)))(hm:rows.length=m)(h1:m<=cap)(h2:cap<=maxLen)(h3:sp.length=(cap-m)*sz)(h:St n E (Hp M0 w0 S rs) a w):St n E (Hp M0 w0 S (rs.set j (Ax e sz rows (.slice (some ⟨b,0,none⟩) m cap)))) a w:=by
 subst hm;obtain⟨M,g1,g2,g3,g4⟩:=h;have g4:BD M0 w0 S rs M w:=g4;exact⟨M,g1,g2,g3,g4.DF hj rfl rfl (.inr ⟨b,cap,sp,rfl,h1,h2,h3,(g4.hold _ (List.mem_of_getElem? hj)).1⟩)⟩
theorem Fin.ML{Q:Exit->Act->World->Prop}{x:Exit}{e:TypeId}{sz b:Nat}(j:Nat)(hj:rs[j]? =some (AE true b e (rows.flatten++sp.map is)))(hm:rows.length=m)(h1:m<=cap)(h2:cap<=maxLen)(h3:sp.length=(cap-m)*sz)(k:Fin n E (Hp M0 w0 S (rs.set j (Ax e sz rows (.slice (some ⟨b,0,none⟩) m cap)))) Q x):Fin n E (Hp M0 w0 S rs) Q x:=Fin.conv (fun _ _ hs=>hs.ML j hj hm h1 h2 h3) k
end
section
variable{P:Program}{L:Lg P}{n:Fm}{fz:Nat}{E:Env}{M0:Av}{w0:World}{S:Nat->Prop}{rs:List Ay}{o:Oper}
theorem Ln{dT sT ty e:TypeId}{g off dLen dCap sLen sCap sz:Nat}{a:Addr}{cur:Array Value}{t:TypeId}{cs:List Value}(hu:P.underlying dT=some (.slice e))(hz:Aw P e=some sz)(hg:w.heap[g]? =some (.cells cur t (0,0)))(hm:m=Nat.min sLen dLen)(hn:cs.length=m*sz)(hsrc:∀j v,cs[j]? =some v->w.cell? (a.add j)=some v)(hfit:off+cs.length<=cur.size)(h1:∀v∈cs,v.oneCell'=true):
  (Builtin.copy_ #[dT,sT] ty #[.slice (some ⟨g,off,none⟩) dLen dCap,.slice (some a) sLen sCap]).run P w= .ok (goInt m) (w.setRow g (cur.toList.take off++cs++cur.toList.drop (off+cs.length)).toArray):=by
 have hl:=run_loadCells_list (P:=P) w a cs hsrc;have hst:=run_storeCells_at P g off t cs 0 cur w hg (by simpa using hfit) h1;unfold Aw at hz;cases hq:P.info? e with
 |none=>rw[hq]at hz;cases hz
 |some i=>
  have hi:i.size=sz:=by simpa[hq]using hz
  rw[hn]at hl;simp[Builtin.copy_,run_underlying hu,Builtin.lenOf,Builtin.firstCells,Go.sizeOf,typeInfo,hq,hi,←hm,hl,hst]
theorem I5{dT sT e:TypeId}{y:Operand}{b off sz:Nat}{ps':List Pr}(hg:o.guard=none)(hd:o.dst=some d)(ho:o.op= .call { callee:= .builtin .copy,args:= #[x,y],argTypes:= #[dT,sT] })(ht:P.underlying dT=some (.slice e))(hz:Aw P e=some sz)(hsz:0<sz)(hx:VL E x (is (.slice (some ⟨b,off,none⟩) m cap)))(hy:VL E y (slice sz rows))(hpos:0<rows.length)(hm:rows.length<=m)(hl:off+rows.length*sz<=ps.length)(hps:ps.take off++rows.flatten++ps.drop (off+rows.length*sz)=ps'):D8 P M0 w0 S n j (SR.c (AE new b T ps)) (SR.c (AE new b T ps')) o E (int (rows.length:Nat)):=by
 refine⟨hg,fun M w a rs Ms he hI hj=>?_⟩;have h1:a.eval x=_:=hx.ev he CB;have h2:=hy.ev he CB;obtain⟨⟨_,cs,h4,h5,h6⟩,_⟩:=hI.hold _ (List.mem_of_getElem? hj);have pK:=h5.length;have h2':=h2;obtain⟨A',c',hv,bY,Uw,ij,Fh⟩:=h2
 obtain⟨OH,rfl⟩:∃OH,A'=some OH:=by
  obtain⟨_,b,hb,_⟩:=Fh 0 _ (List.getElem?_eq_getElem hpos);exact⟨b,hb⟩
 rw[hv]at h2';obtain⟨news,hfl,hcell⟩:=Fg hsz h2';have RT:=hfl.1;have hrun:=Ln (P:=P) (w:=w) (sT:=sT) (ty:=o.type) (g:=b) (off:=off) (dLen:=m) (dCap:=cap) (sLen:=rows.length) (sCap:=c') (m:=rows.length) (a:=OH) (cur:=cs.toArray) (t:=T) (cs:=news) ht hz h4 (Nat.min_eq_left hm).symm RT (fun k u hk=>(hcell k u hk).1) (by simp[RT];omega) hfl.2.1
 have DV:(execOp a.eval o).run P w= .ok (.value (goInt rows.length)) (w.setRow b (cs.take off++news++cs.drop (off+news.length)).toArray):=by
  simp[execOp,ho,h1,hv,resolve,invoke,builtin,hrun]
 rw[DV]
 obtain⟨h7, h8⟩ := BD.write (qs := ps') (cs := cs.take off ++ news ++ cs.drop (off + news.length)) hI hj (by rw[← hps, RT]; exact((h5.take off).app (hfl.hl hsz)).app (h5.drop _))
  (fun c hc=>by
   simp only[List.mem_append]at hc;rcases hc with(hc|hc)|hc
   .exact Mx
   .exact hfl.2.1 c hc
   .exact h6 c (List.mem_of_mem_drop hc))
 exact⟨M,rfl,h8,h7⟩
theorem Wu{dT sT e:TypeId}{y:Operand}{b off off2 dl RG sz:Nat}{ps':List Pr}(hg:o.guard=none)(hd:o.dst=some d)(ho:o.op= .call { callee:= .builtin .copy,args:= #[x,y],argTypes:= #[dT,sT] })(ht:P.underlying dT=some (.slice e))(hz:Aw P e=some sz)(hx:VL E x (is (.slice (some ⟨b,off,none⟩) dl cap))){sl:Nat}(hy:VL E y (is (.slice (some ⟨b,off2,none⟩) sl RG)))(hm:m=Nat.min sl dl)(hl:off+m*sz<=ps.length)(hl2:off2+m*sz<=ps.length)(hps:ps.take off++(ps.drop off2).take (m*sz)++ps.drop (off+m*sz)=ps'):D8 P M0 w0 S n j (SR.c (AE new b T ps)) (SR.c (AE new b T ps')) o E (int (m:Nat)):=by
 refine⟨hg,fun M w a rs Ms he hI hj=>?_⟩;have h1:a.eval x=_:=hx.ev he CB;have h2:a.eval y=_:=hy.ev he CB;obtain⟨⟨_,cs,h4,h5,h6⟩,_⟩:=hI.hold _ (List.mem_of_getElem? hj);have pK:=h5.length;have RT:((cs.drop off2).take (m*sz)).length=m*sz:=by rw[List.length_take,List.length_drop];omega
 have hrun:=Ln (P:=P) (w:=w) (sT:=sT) (ty:=o.type) (g:=b) (off:=off) (dLen:=dl) (dCap:=cap) (sLen:=sl) (sCap:=RG) (m:=m) (a:=⟨b,off2,none⟩) (cur:=cs.toArray) (t:=T) (cs:=(cs.drop off2).take (m*sz)) ht hz h4 hm RT (fun k u hk=>by
   rw[DE];rw[List.getElem?_take]at hk
   split at hk
   .rw[List.getElem?_drop]at hk;simp[World.cell?,h4,hk]
   .cases hk) (by simp[RT];omega) (fun v hv=>h6 v (List.mem_of_mem_drop (List.mem_of_mem_take hv)))
 have DV:(execOp a.eval o).run P w= .ok (.value (goInt m)) (w.setRow b (cs.take off++(cs.drop off2).take (m*sz)++cs.drop (off+((cs.drop off2).take (m*sz)).length)).toArray):=by
  simp[execOp,ho,h1,h2,resolve,invoke,builtin,hrun]
 rw[DV]
 obtain⟨h7, h8⟩ := BD.write (qs := ps') (cs := cs.take off ++ (cs.drop off2).take (m * sz) ++ cs.drop (off + ((cs.drop off2).take (m * sz)).length)) hI hj (by rw[← hps, RT]; exact((h5.take off).app ((h5.drop off2).take _)).app (h5.drop _))
  (fun c hc=>by
   simp only[List.mem_append]at hc;rcases hc with(hc|hc)|hc
   .exact Mx
   .exact h6 c (List.mem_of_mem_drop (List.mem_of_mem_take hc))
   .exact h6 c (List.mem_of_mem_drop hc))
 exact⟨M,rfl,h8,h7⟩
theorem ON{tS tR e:TypeId}(ht:P.underlying tS=some (.slice e)){size:Nat}(hz:∀w,(Go.sizeOf e).run P w= .ok size w){a b:Addr}{la ca lb cb:Nat}(hne:a.block≠b.block){tA tB:TypeId}{kA kB:Nat}(hsa:w.shape? a.block=some (tA,kA+1))(hsb:w.shape? b.block=some (tB,kB+1))(hfb:∀c:Addr,c.block=b.block->w.frozen? c=false):
  (Extern.SlicesOverlaps.overlaps #[tS,tS] #[tR] #[.slice (some a) la ca,.slice (some b) lb cb]).run P w= .ok (.bool false) w:=by
 have hnb:(a.block !=b.block)=true:=by simpa using hne
 have AFc:(a.block==b.block)=false:=by simpa using hne
 have hf1:=hfb b rfl;have Sn:=hfb { block:=b.block,off:=kB+1 } rfl
 change Sem.run P (α := Value) (do
  let some t := (#[tS, tS] : Array TypeId)[0]? | stuck "slices.overlaps: no parameter types"
  let .slice elem ← underlying t | stuck "slices.overlaps: slice type expected"
  let size ←sizeOf elem
  match (some a:Option Addr),(some b:Option Addr)with
  |some a,some b=>
   if la=0\/lb=0\/size=0 then pure (Value.bool false)
   else if a.block !=b.block&&(←frozen a)&&(←frozen b)then unsupported .addressObserved
   else do
    if a.block != b.block then do
     noView a;noView b
     if ← mayBeOne a b then return Value.bool ((← choose (.extern "sameAddr.stringBytes" 2)) == 1)
    pure (Value.bool (a.block==b.block&&a.off<b.off+lb*size&&b.off<a.off+la*size))
  |_,_=>pure (Value.bool false)) w=_
 by_cases h0:la=0\/lb=0\/size=0
 .simp[run_underlying ht,hz,h0]
 .
  cases hfa:w.frozen? a<;>cases AFd:w.frozen? { block:=a.block,off:=kA+1 }<;>
   simp[run_underlying ht,hz,h0,hnb,AFc,frozen,noView,viewAt,mayBeOne,stringish,shape,Sem.run,hsa,hsb,hfa,AFd,hf1,Sn]
theorem Yy{a:Addr}(h:w.cell? a=some v):∃t k,w.shape? a.block=some (t,k+1):=by
 unfold World.cell? at h;unfold World.shape?
 split at h
 .
  rename_i c t mk hh
  have hc:c[a.off]? =some v:=by
   split at h
   .cases h
   .exact h
  have:a.off<c.size:=by
   rcases Nat.lt_or_ge a.off c.size with h'|h'
   .exact h'
   .rw[Array.getElem?_eq_none h']at hc;cases hc
  exact⟨t,c.size-1,by show some (t,c.size)=_;congr 2;omega⟩
 .cases h
theorem PI {fn : Func} {y : Operand} {tS tR e : TypeId} {b off sz : Nat} (ho : o.op = .call { callee := .value (.func f), args := #[x, y], argTypes := ts }) (hf : P.funcs[f]? = some fn) (hname : (fn.name == "runtime.NumGoroutine") = false) (hb : fn.body.isNone = true) (hn : Extern.findNext fn = none) (hex : Extern.find fn = some (Extern.SlicesOverlaps.overlaps #[tS, tS] #[tR])) (ht : P.underlying tS = some (.slice e)) (hz : Aw P e = some sz) (hsz : 0 < sz) (hx : VL E x (slice sz rows)) (hpos : 0 < rows.length) (hy : VL E y (is (.slice (some ⟨b, off, none⟩) m cap))) (hps : 0 < ps.length) :
  JU P M0 w0 S j (SR.c (AE new b T ps)) o E (bool false):=by
 intro M w a rs he hI hj;have h1:=hx.ev he CB;have h2:a.eval y=_:=hy.ev he CB;obtain⟨⟨hM,cs,h4,h5,h6⟩,_⟩:=hI.hold _ (List.mem_of_getElem? hj);have pK:=h5.length;obtain⟨A',c',hv,bY,Uw,ij,Fh⟩:=h1;obtain⟨hlen,OH,rfl,hrow⟩:=Fh 0 _ (List.getElem?_eq_getElem hpos);obtain⟨p0,eu⟩:∃p0,rows[0][0]? =some p0:=⟨_,List.getElem?_eq_getElem (by rw[hlen];exact hsz)⟩;obtain⟨u,hu,hnm,_⟩:=hrow 0 p0 eu;obtain⟨tA,kA,hsa⟩:=Yy hu;rw[Ga]at hsa;have hne:OH.block≠b:=fun e1=>hnm (by rw[e1];exact hM _);have hsb:w.shape? b=some (T,(cs.length-1)+1):=by unfold World.shape?;rw[h4];show some (T,cs.toArray.size)=_;congr 2;simp;omega
 have hfb:∀c:Addr,c.block=b->w.frozen? c=false:=fun c hc=>by unfold World.frozen?;rw[hc,h4];simp
 have hzr:∀w,(Go.sizeOf e).run P w= .ok sz w:=fun w=>Bz hz w;have hov:=ON (P:=P) (w:=w) (tR:=tR) ht hzr (a:=OH) (b:=⟨b,off,none⟩) (la:=rows.length) (ca:=c') (lb:=m) (cb:=cap) hne hsa hsb hfb;have h3:a.eval (.func f)= .func (.func f) #[] #[]:=rfl;have hrun:(execOp a.eval o).run P w=(callFunc f #[a.eval x,a.eval y]).run P w:=by simp[execOp,ho,resolve,Deferred.ofValue,invoke,h3]
 rw[hrun,hv,h2,run_callFunc_extern hf hname hb hn hex,hov];exact⟨rfl,Below.refl _ _⟩
def rK(e:TypeId)(sz m:Nat)(ps:List Pr)(v:Value):Ay where
 blk:=match v with| .slice (some a) _ _=>some a.block|_=>none
 new:=true
 h M w:=∃(b cap:Nat) (sp:List Value),v= .slice (some ⟨b,0,none⟩) m cap/\m<=cap/\cap<=maxLen/\ps.length+sp.length=cap*sz/\(AE true b e (ps++sp.map is)).h M w
 st M w M' w' he hk h:=by
  obtain⟨b,cap,sp,rfl,h1,h2,h3,h4⟩:=h;exact⟨b,cap,sp,rfl,h1,h2,h3,(AE true b e (ps++sp.map is)).st M w M' w' he hk h4⟩
theorem fE{t tn ty e:TypeId}{sz bytes:Nat}{b:Nat}{j2:Nat}{kn:IntKind}(ht:P.underlying t=some (.slice e))(htn:P.underlying tn=some (.int kn))(hz:Aw P e=some sz)(hby:CW P e=some bytes)(Dw:BZ P e=some zs)(hzl:zs.length=sz)(hone:zs.all (·.oneCell')=true)(hsz:0<sz)(h:BD M0 w0 S rs M w)(hj:rs[j]? =some Bb)(hj2:rs[j2]? =some (AE true b T ps))(FC:i*sz<=ps.length)(hk:0<k)(hg:cap<i+k)(GA:i+k<=maxLen)(hfit:(i+k)*bytes<=140737488355328):
  ∃v' w' M',(Builtin.append_ #[t,tn] ty #[.slice (some ⟨b,0,none⟩) i cap,.int .i64 (k:Nat)]).run P w= .ok v' w'/\(lens (i+k)).h M' w' v'/\Ext M w M' w'/\BD M0 w0 S (rs.set j (rK e sz (i+k) (ps.take (i*sz)) v')) M' w':=by
 obtain⟨⟨_,cs0,g4,g5,g6⟩,_⟩:=h.hold _ (List.mem_of_getElem? hj2);have g5l:=g5.length;unfold Aw at hz;unfold CW at hby;unfold BZ at Dw;cases hi:P.info? e with
 |none=>rw[hi]at hz;cases hz
 |some ii=>
  rw[hi]at hz hby Dw;simp only[Option.map_some,Option.some.injEq,Option.map_eq_some_iff]at hz hby Dw;obtain⟨z,WK,Dw⟩:=Dw;have Uv:z.cells.size=sz:=by rw[←hzl,←Dw];simp
  have hol:(cs0.take (i*sz)).length=i*sz:=by rw[List.length_take];omega
  have hold:(Builtin.firstCells ii.size i (.slice (some ⟨b,0,none⟩) i cap)).run P w.drew= .ok (cs0.take (i*sz)).toArray w.drew:=by
   have:=run_loadCells_list (P:=P) w.drew ⟨b,0,none⟩ (cs0.take (i*sz)) (fun q u hq=>by
    rw[DE];rw[List.getElem?_take]at hq
    split at hq
    .
     have hh:w.drew.heap[b]? =some (.cells cs0.toArray T (0,0)):=g4;simp[World.cell?,hh,hq]
    .cases hq)
   rw[hol]at this;simp only[Builtin.firstCells,hz];rw[Nat.mul_comm]at this ⊢
   first|exact this|(simp;exact this)
  have hrun:=Lib.run_append_grow_zeros (P:=P) w t tn ty e ii z .i64 kn ht htn hi WK (some ⟨b,0,none⟩) i cap (cs0.take (i*sz)) hold k hk (by rw[hz];exact hsz) hg P4 (by rw[hby];have:=Nat.mul_le_mul_right bytes (show k<=i+k by omega);omega) (by rw[hby];exact growslice_fits hg hfit)
  generalize hcap:grownCap w (i+k) cap e=cap' at hrun
  have hge:i+k<=cap':=by rw[←hcap];exact grownCap_ge _ _ _ _
  have hle:cap'<=maxLen:=by rw[←hcap];exact grownCap_le_maxLen _ _ _ _ GA
  generalize AB8:Builtin.zeroCells z.cells k=z1 at hrun
  generalize AB9:Builtin.zeroCells z.cells (cap'-(i+k))=z2 at hrun
  have JG:z1.size=k*sz:=by rw[←AB8,size_zeroCells,Uv]
  have Wd:z2.size=(cap'-(i+k))*sz:=by rw[←AB9,size_zeroCells,Uv]
  have ho1:∀c∈z1.toList,c.oneCell'=true:=by rw[←AB8];exact Eb Dw hone
  have ho2:∀c∈z2.toList,c.oneCell'=true:=by rw[←AB9];exact Eb Dw hone
  generalize hcs:((cs0.take (i*sz)).toArray++z1++z2)=cs at hrun
  have AB_:cs.toList=cs0.take (i*sz)++(z1.toList++z2.toList):=by rw[←hcs];simp
  have kQ:∀c∈cs.toList,c.oneCell'=true:=by
   intro c hc;rw[AB_]at hc;simp only[List.mem_append]at hc;rcases hc with hc|hc|hc
   .exact g6 c (List.mem_of_mem_take hc)
   .exact ho1 c hc
   .exact ho2 c hc
  have hb:Below w.heap.size w (w.drew.alloc (.cells cs e)):=((Below.refl _ _).drew).alloc (Nat.le_refl _) _;have h2:=Ext.below (M:=M) hb
  have EN:Ext M w (fun b o=>M b o\/b=w.heap.size) (w.drew.alloc (.cells cs e)):=by
   refine⟨h2.size,fun a v hc hm=>⟨fun hx=>?_,(h2.keep a v hc hm).2⟩,fun b o ho hp hm=>⟨fun hx=>?_,(h2.obj b o ho hp hm).2⟩⟩
   .
    rcases hx with hx|hx
    .exact DL
    .exact El
   .
    rcases hx with hx|hx
    .exact DL
    .subst hx;simp at ho
  have hs1:(w.drew.alloc (.cells cs e)).heap.size=w.heap.size+1:=by simp
  refine⟨_,_,fun b o=>M b o\/b=w.heap.size,hrun,⟨_,_,rfl⟩,EN,?_⟩;refine h.replace hj EN hb.os hb.tape hb.output (fun k hk _=>hb.block k hk) rfl (fun b o hm _=> .inl hm) (fun b o hx=>?_) ?_ rfl (fun b hbk=>?_)
  .
   rcases hx with hx|hx
   .exact K8
   .omega
  .
   refine⟨w.heap.size,cap',z1.toList++z2.toList,rfl,hge,hle,?_,fun o=> .inr rfl,cs.toList,?_,?_,kQ⟩
   .rw[List.length_take,Nat.min_eq_left FC,List.length_append,Array.length_toList,Array.length_toList,JG,Wd,←Nat.add_mul,←Nat.add_mul];congr 1;omega
   .
    have hh:(w.drew.alloc (.cells cs e)).heap[w.heap.size]? =some (.cells cs e (0,0)):=heap_alloc_new w.drew _;rw[hh]
   .rw[AB_];exact((g5.take _).st EN).app (NB _ _ _)
  .
   have Ef:some w.heap.size=some b:=hbk
   injection Ef with e1
   subst e1;exact⟨by rw[hs1];omega,.inr (Nat.le_refl _)⟩
theorem TO.vT{Q:Exit->Act->World->Prop}{t tn e:TypeId}{y:Operand}(j j2:Nat){sz bytes:Nat}{b:Nat}{kk:Int}{kn:IntKind}(hj:rs[j]? =some Bb)(hj2:rs[j2]? =some (AE true b T ps))(hg:o.guard=none)(hd:o.dst=some d)(hn:d<n)(ho:o.op= .call { callee:= .builtin .append,args:= #[x,y],argTypes:= #[t,tn] })(ht:P.underlying t=some (.slice e))(htn:P.underlying tn=some (.int kn))(hz:Aw P e=some sz)(hby:CW P e=some bytes)(Dw:BZ P e=some zs)(hzl:zs.length=sz)(hone:zs.all (·.oneCell')=true)(hsz:0<sz)(hx:VL E x (is (.slice (some ⟨b,0,none⟩) i cap)))(hy:VL E y (int kk))(hkk:kk=(k:Nat))(FC:i*sz<=ps.length)(hk:0<k)(hgr:cap<i+k)(GA:i+k<=maxLen)(hfit:(i+k)*bytes<=140737488355328)(kq:∀(b2 RG:Nat) (sp:List Value),i+k<=RG->RG<=maxLen->(ps.take (i*sz)).length+sp.length=RG*sz->TO P n ops r ((d,is (.slice (some ⟨b2,0,none⟩) (i+k) RG))::E) (Hp M0 w0 S (rs.set j (AE true b2 e (ps.take (i*sz)++sp.map is)))) Q):TO P n ops (o::r) E (Hp M0 w0 S rs) Q:=
 TO.bT hg fun K M w a Ms hdf he hI hK=>by
  have hI:BD M0 w0 S rs M w:=hI;have hef:=Cq (o:=o) he;have h1:a.eval x=_:=hx.ev hef CB;have h2:a.eval y= .int .i64 kk:=hy.ev hef CB;have hjl:j<rs.length:=by rcases Nat.lt_or_ge j rs.length with h|h;exact h;rw[List.getElem?_eq_none h]at hj;cases hj
  obtain⟨v',w',M',hrun,h3,h4,h5⟩:=fE (ty:=o.type) ht htn hz hby Dw hzl hone hsz hI hj hj2 FC hk hgr GA hfit;have DV:(execOp a.eval o).run P w= .ok (.value v') w':=by rw[hkk]at h2;simp[execOp,ho,resolve,invoke,builtin,h1,h2,hrun]
  obtain⟨b2,RG,sp,rfl,q1,q2,q3,q4⟩:=(h5.hold _ (List.mem_of_getElem? (List.getElem?_set_self hjl))).1
  have h6:BD M0 w0 S (rs.set j (AE true b2 e (ps.take (i*sz)++sp.map is))) M' w':=by
   have:=h5.DF (r':=AE true b2 e (ps.take (i*sz)++sp.map is)) (List.getElem?_set_self hjl) rfl rfl q4
   rwa [List.set_set]at this
  have hgv:Ew P M0 w0 S o a M w (is (.slice (some ⟨b2,0,none⟩) (i+k) RG)) j (SR.c (AE true b2 e (ps.take (i*sz)++sp.map is))) rs ((execOp a.eval o).run P w):=by
   rw[DV];exact⟨M',rfl,h4,h6⟩
  refine LB hgv fun v w'' M'' hv hxt QD=>hK _ _ _ _ (kq b2 RG sp q1 q2 q3) ⟨M'',by rw[CC];exact Ms,by rw[put_defers];exact hdf,?_,QD⟩;intro s q hq;simp only[List.lookup]at hq
  by_cases hs:s=d
  .subst hs;simp at hq;subst hq;rw[hd,B6 HK];exact hv
  .rw[show(s==d)=false by simpa using hs]at hq;rw[hd,Ba hs];exact q.st _ _ _ _ _ hxt (he s q hq)
end
section
variable{P:Program}{L:Lg P}{n:Fm}{fz:Nat}{E:Env}{M0:Av}{w0:World}{S:Nat->Prop}{rs:List Ay}{o:Oper}
theorem cL{I:Cj}{t e:TypeId}{A:Option Addr}(ho:o.op= .call { callee:= .builtin .cap,args:= #[x],argTypes:= #[t] })(ht:P.underlying t=some (.slice e))(hx:VL E x (is (.slice A m cap))):Af P I o E (int cap):=
 Af.same fun M w a he _=>by
  have h1:a.eval x=_:=hx.ev he CB;exact⟨.int .i64 cap,by simp[execOp,ho,resolve,invoke,builtin,Builtin.cap_,h1,run_underlying ht,goInt],rfl⟩
theorem NP{I:Cj}{t e:TypeId}{y:Operand}{k:IntKind}{h:Int}{sz b:Nat}(ho:o.op= .slice t x none (some y) none)(ht:P.underlying t=some (.slice e))(hz:Aw P e=some sz)(hx:VL E x (is (.slice (some ⟨b,0,none⟩) m cap)))(hy:VL E y (is (.int k h)))(h0:0<=h)(hl:h<=cap)(h1m:0<cap):
  Af P I o E (is (.slice (some ⟨b,0,none⟩) h.toNat cap)):=
 Af.same fun M w a he _=>by
  have h1:a.eval x=_:=hx.ev he Am;have h3:a.eval y=_:=hy.ev he Am;refine⟨_,?_,rfl⟩;simp[execOp,ho,h1,h3,Instr.sliceAt,Instr.slice,run_underlying ht,Instr.sliceBounds,Instr.sliceBound,asIntOf,h0,hl,Bz hz];intro _;rfl
theorem NQ{I:Cj}{t e:TypeId}{y:Operand}{k:IntKind}{l:Int}{sz b:Nat}(ho:o.op= .slice t x (some y) none none)(ht:P.underlying t=some (.slice e))(hz:Aw P e=some sz)(hx:VL E x (is (.slice (some ⟨b,0,none⟩) m cap)))(hy:VL E y (is (.int k l)))(h0:0<=l)(hl:l<=m)(hc:m<=cap):
  Af P I o E (lens (m-l.toNat)):=
 Af.same fun M w a he _=>by
  have h1:a.eval x=_:=hx.ev he Am;have h3:a.eval y=_:=hy.ev he Am;have hb:l<=(m:Int):=by omega
  refine⟨.slice (if cap=l.toNat then some ⟨b,0,none⟩else some ⟨b,l.toNat*sz,none⟩) (m-l.toNat) (cap-l.toNat),?_,_,_,rfl⟩
  by_cases hne:cap=l.toNat<;>
  simp[execOp,ho,h1,h3,Instr.sliceAt,Instr.slice,run_underlying ht,Instr.sliceBounds,Instr.sliceBound,asIntOf,h0,hb,Bz hz,hne,DE]
theorem Tr.ML{Q:Exit->Act->World->Prop}{c:Code}{e:TypeId}{sz b:Nat}(j:Nat)(hj:rs[j]? =some (AE true b e ps))(hps:ps=rows.flatten++sp.map is)(hm:rows.length=m)(h1:m<=cap)(h2:cap<=maxLen)(h3:sp.length=(cap-m)*sz)(k:Tr L n E (Hp M0 w0 S (rs.set j (Ax e sz rows (.slice (some ⟨b,0,none⟩) m cap)))) c Q):Tr L n E (Hp M0 w0 S rs) c Q:=Tr.conv (fun _ _ hs=>hs.ML j (by rw[hj,hps]) hm h1 h2 h3) k
theorem Fin.OO{Q:Exit->Act->World->Prop}{x:Exit}{e:TypeId}{sz b:Nat}(j:Nat)(hj:rs[j]? =some (AE true b e ps))(hps:ps=rows.flatten++sp.map is)(hm:rows.length=m)(h1:m<=cap)(h2:cap<=maxLen)(h3:sp.length=(cap-m)*sz)(k:Fin n E (Hp M0 w0 S (rs.set j (Ax e sz rows (.slice (some ⟨b,0,none⟩) m cap)))) Q x):Fin n E (Hp M0 w0 S rs) Q x:=Fin.conv (fun _ _ hs=>hs.ML j (by rw[hj,hps]) hm h1 h2 h3) k
theorem BM.MM{e:TypeId}{sz:Nat}{res:Pr}{R:Ay}(h:BM P f ps res R (fun v=>DQ e sz rows v)):BM P f ps res R (fun v=>Ax e sz rows v):=by
 refine⟨h.1,fun M0 w0 S rs M w vs hI hv=>(h.2 M0 w0 S rs M w vs hI hv).mono ?_⟩;rintro e' w' ⟨v,M',rfl,h2,h3,h4⟩;exact⟨v,M',rfl,h2,h3,h4.DF (i:=0) rfl rfl rfl (.inr (h4.hold _ (List.mem_cons_self ..)).1)⟩
instance AAC (p q:Pr)[KM p][KM q]:KM (EB [p,q]):=⟨fun M M' w v ⟨cs,h1,h2⟩=>⟨cs,h1,by
 match cs,h2 with
 |[a,b],h2=>exact⟨KM.free _ _ _ _ h2.1,KM.free _ _ _ _ h2.2.1,trivial⟩⟩⟩
theorem kS{I:Cj}{s t:TypeId}{k:IntKind}{n:Int}(ho:o.op= .convert s t x)(hs:P.underlying s=some (.int k))(ht:P.underlying t=some (.int .u64))(hx:VL E x (is (.int k n)))(h0:0<=n)(h1:n<=18446744073709551615):Af P I o E (is (.int .u64 n)):=by
 have:=B9 (P:=P) (I:=I) ho hs ht hx
 rwa [IntWalk.u64_in n ⟨h0,h1⟩]at this
theorem rL{I:Cj}{t u:TypeId}{y:Operand}{m:Int}(ho:o.op= .binOp .shr t x y u)(hx:VL E x (is (.int .u64 m)))(hy:VL E y (is (.int .u64 1)))(h0:0<=m):Af P I o E (is (.int .u64 (m/2))):=
 Af.same fun M w a he _=>by
  have h1:a.eval x= .int .u64 m:=hx.ev he Am;have h2:a.eval y= .int .u64 1:=hy.ev he Am;refine⟨.int .u64 (m.fdiv 2),?_,congrArg (Value.int .u64) (Int.fdiv_eq_ediv_of_nonneg m AA)⟩;simp only[execOp,ho,h1,h2];simp[eqGuard,binOp,Op.shift,IntKind.bits]
end
section
variable{P:Program}{L:Lg P}{n:Fm}{fz:Nat}{E:Env}{M0:Av}{w0:World}{S:Nat->Prop}{o:Oper}
def rM(new:Bool)(b:Nat)(T:TypeId)(off:Nat)(p:Pr)(ps:Value->List Pr)(u:Value):Ay:=match u with
 | .tuple t=>AE new b T ((ps (t.getD 0 undef)).take off++[Aj (t.getD 1 undef) p]++(ps (t.getD 0 undef)).drop (off+1))
 |_=>Bb
theorem OP{t:TypeId}{q0 q:Tmp}{b off:Nat}{ps:Value->List Pr}[One p](hg:o.guard=none)(hd:o.dst=none)(ho:o.op= .store t x (.tmp q))(hx:VL E x (ptr b off))(hy:E.lookup q=some p)(hz:Aw P t=some 1)(hl:∀v,off+1<=(ps v).length):D8 P M0 w0 S n j ⟨.one q0,fun v=>AE new b T (ps v)⟩ ⟨.two q0 q,rM new b T off p ps⟩ o E any:=by
 refine⟨hg,fun M w a rs hsz he hI hj=>?_⟩;have hj':rs[j]? =some (SR.at_ a (SR.c (AE new b T (ps (a.tmps.getD q0 undef))))):=hj;obtain⟨h1,h2⟩:=EL (P:=P) (M0:=M0) (w0:=w0) (S:=S) (n:=n) (j:=j) (new:=new) (T:=T) (ps:=ps (a.tmps.getD q0 undef)) (b:=b) (off:=off) hg hd ho hx hy hz (hl _);have h3:=h2 M w a rs hsz he hI hj'
 revert h3
 generalize (execOp a.eval o).run P w=r
 have key:∀v,SR.at_ (a.put o.dst v) ⟨.one q,fun v=>AE new b T ((ps (a.tmps.getD q0 undef)).take off++[Aj v p]++(ps (a.tmps.getD q0 undef)).drop (off+1))⟩=SR.at_ (a.put o.dst v) ⟨.two q0 q,rM new b T off p ps⟩:=fun v=>by rw[hd];rfl
 intro h3;cases r with
 |halt x w'=>exact h3
 |ok x w'=>
  cases x
  case value v=>obtain⟨M',g1,g2,g3⟩:=h3;exact⟨M',g1,g2,by rw[←key];exact g3⟩
  case skip=>obtain⟨M',g1,g2,g3⟩:=h3;exact⟨M',g1,g2,by rw[←key];exact g3⟩
  case enter f args=>
   refine Calls.mono h3 ?_;rintro e w'' ⟨v,M',g0,g1,g2,g3⟩;exact⟨v,M',g0,g1,g2,by rw[←key];exact g3⟩
  all_goals exact h3
theorem BG.kU{Q:Exit->Act->World->Prop}{rs:List SR}(j1 j2 i s t:Nat){f g:Value->Ay}{b off:Nat}{ps:Value->List Pr}{q r:Pr}(h1:rs[j1]? =some ⟨.one s,f⟩)(h2:rs[j2]? =some ⟨.one t,g⟩)(h3:rs[i]? =some ⟨.two s t,rM new b T off r ps⟩)(h12:j1≠j2)(LX:j1≠i)(h23:j2≠i)(hst:s≠t)(hs:E.lookup s=some p)(ht:E.lookup t=some q)(k:∀v u,BG n M0 w0 S ((t,Aj u q)::(s,Aj v p)::E) (((rs.set j1 (SR.c (f v))).set j2 (SR.c (g u))).set i (SR.c (AE new b T ((ps v).take off++[Aj u r]++(ps v).drop (off+1))))) Q):BG n M0 w0 S E rs Q:=by
 rintro a w ⟨M,g1,g2,g3,g4⟩;refine k (a.tmps.getD s undef) (a.tmps.getD t undef) a w ⟨M,g1,g2,?_,?_⟩
 .
  intro c z hz;simp only[List.lookup]at hz
  by_cases hct:c=t
  .subst hct;simp only[beq_self_eq_true,Option.some.injEq]at hz;subst hz;exact⟨rfl,g3 c q ht⟩
  .
   rw[show(c==t)=false by simpa using hct]at hz
   by_cases hcs:c=s
   .exact ak
   .rw[show(c==s)=false by simpa using hcs]at hz;exact g3 c z hz
 .
  have e1:=U3 h1 a;have e2:=U3 (rs:=rs.set j1 (SR.c (f (a.tmps.getD s undef)))) (j:=j2) (s:=t) (f:=g) (by rw[List.getElem?_set,if_neg h12];exact h2) a;have h3':((rs.set j1 (SR.c (f (a.tmps.getD s undef)))).set j2 (SR.c (g (a.tmps.getD t undef))))[i]? =some ⟨.two s t,rM new b T off r ps⟩:=by grind
  rw[List.map_set,e2,e1]
  have e3:(rs.map (·.at_ a)).set i (AE new b T ((ps (a.tmps.getD s undef)).take off++[Aj (a.tmps.getD t undef) r]++(ps (a.tmps.getD s undef)).drop (off+1)))=rs.map (·.at_ a):=by
   apply List.ext_getElem?
   intro m;rw[List.getElem?_set]
   by_cases pL:i=m
   .
    subst pL;rw[if_pos rfl]
    split
    .rw[List.getElem?_map,h3];rfl
    .grind
   .rw[if_neg pL]
  exact(congrArg (fun l=>BD M0 w0 S l M w) e3).mpr g4
end
section
variable{P:Program}{L:Lg P}{n:Fm}{fz:Nat}{E:Env}{M0:Av}{w0:World}{S:Nat->Prop}{rs:List Ay}{ε:Type}{res:ε->List Ay}
theorem Tr.eqC{Q:Exit->Act->World->Prop}{c:Code}(j:Nat){b:Nat}(qs:List Pr)(hi:rs[j]? =some (AE new b T ps))(h:ps=qs)(k:Tr L n E (Hp M0 w0 S (rs.set j (AE new b T qs))) c Q):Tr L n E (Hp M0 w0 S rs) c Q:=by
 subst h;exact Tr.Hx j ps hi (Hh.rfl' ps) k
theorem Fin.eqC{Q:Exit->Act->World->Prop}{e:Exit}(j:Nat){b:Nat}(qs:List Pr)(hi:rs[j]? =some (AE new b T ps))(h:ps=qs)(k:Fin n E (Hp M0 w0 S (rs.set j (AE new b T qs))) Q e):Fin n E (Hp M0 w0 S rs) Q e:=by
 subst h;exact Fin.Hx j ps hi (Hh.rfl' ps) k
end
section
variable{P:Program}{L:Lg P}{n:Fm}{fz:Nat}{E:Env}{M0:Av}{w0:World}{S:Nat->Prop}{o:Oper}
theorem RW{I:Cj}{t e:TypeId}(ho:o.op= .call { callee:= .builtin .len,args:= #[x],argTypes:= #[t] })(ht:P.underlying t=some (.slice e))(hx:VL E x (lens m)):Af P I o E (int m):=
 Af.same fun M w a he _=>by
  obtain⟨A,c,h1⟩:=hx.ev he CB;exact⟨.int .i64 m,by simp[execOp,ho,resolve,invoke,builtin,Builtin.len_,h1,run_underlying ht,goInt],rfl⟩
end
end Cp
namespace Cp
open Go Go.RowKit
section
variable{P:Program}{L:Lg P}{I:Cj}{o:Oper}{E:Env}
theorem fF{c y:Operand}{b d:Bool}(ho:o.op= .pick c (.const (.bool true)) y)(hc:VL E c (bool b))(hy:VL E y (bool d)):Af P I o E (bool (b||d)):=by
 cases b with
 |true=>exact OD ho hc rfl (vl rfl)
 |false=>exact OE ho hc rfl hy
theorem Yz{c x:Operand}{b d:Bool}(ho:o.op= .pick c x (.const (.bool false)))(hc:VL E c (bool b))(hx:VL E x (bool d)):Af P I o E (bool (b&&d)):=by
 cases b with
 |true=>exact OD ho hc rfl hx
 |false=>exact OE ho hc rfl (vl rfl)
end
section
variable{P:Program}{L:Lg P}{n:Fm}{fz:Nat}{E:Env}{M0:Av}{w0:World}{S:Nat->Prop}{rs:List Ay}{o:Oper}
theorem RY{t e:TypeId}{x y:Operand}{sz bytes d:Nat}{zs:List Value}{rows rows':List (List Pr)}{v:Value}{p:Pr}{j:Nat}(hg:o.guard=none)(hd:o.dst=some d)(hn:d<n)(ho:o.op= .call { callee:= .builtin .append,args:= #[x,y],argTypes:= #[t,t] })
  (ht:P.underlying t=some (.slice e)) (hz:Aw P e=some sz) (hby:CW P e=some bytes) (Dw:BZ P e=some zs) (hzl:zs.length=sz) (hone:zs.all (·.oneCell')=true) (hsz:0<sz)
  (hx:VL E x (Aj v p)) (hy:VL E y (slice sz rows')) (hl:∀r∈rows,r.length=sz) (GA:rows.length+rows'.length<=maxLen) (hfit:(rows.length+rows'.length)*bytes<=140737488355328):D8 P M0 w0 S n j (SR.c (Ax e sz rows v)) ⟨d,Ax e sz (rows++rows')⟩ o E (lens (rows.length+rows'.length)):=by
 rcases Nat.eq_zero_or_pos rows'.length with h0|h0
 .
  have hr0:rows'=[]:=List.eq_nil_of_length_eq_zero h0;subst hr0;refine⟨hg,fun M w a rs Ms he hI hj=>?_⟩;have h1:a.eval x=v:=(hx.ev he CB).1;obtain⟨A',c',hu,_⟩:=hy.ev he CB;have hj':rs[j]? =some (Ax e sz rows v):=hj
  have hv:∃A c,v= .slice A rows.length c/\rows.length<=c:=by
   rcases(hI.hold _ (List.mem_of_getElem? hj')).1 with⟨rfl,rfl⟩|⟨b,cap,sp,rfl,h2,_⟩
   .exact⟨none,0,rfl,Nat.le_refl _⟩
   .exact⟨_,_,rfl,h2⟩
  obtain⟨A,c,O2,PZ⟩:=hv;have hrun:=HA (P:=P) (ty:=o.type) (A:=A) (A':=A') (n:=rows.length) (c:=c) (c':=c') ht hz PZ w
  have DV:(execOp a.eval o).run P w= .ok (.value v) w:=by
   simp[execOp,ho,resolve,invoke,builtin,h1,hu];rw[O2,hrun];rfl
  rw[DV];refine⟨M,⟨A,c,by rw[O2];rfl⟩,Ext.refl _ _,?_⟩;have:(SR.at_ (a.put o.dst v) ⟨d,Ax e sz (rows++[])⟩)=Ax e sz (rows++[]) v:=by unfold SR.at_ Slot.val;dsimp only;rw[hd,B6 HK]
  rw[this,List.append_nil]
  have kV:rs.set j (Ax e sz rows v)=rs:=by
   apply List.ext_getElem?
   intro i;rw[List.getElem?_set]
   by_cases hij:j=i
   .
    subst hij;rw[if_pos rfl]
    split
    .exact hj'.symm
    .
     rename_i hge
     rw[List.getElem?_eq_none AA]
   .rw[if_neg hij]
  rw[kV];exact hI
 .exact DN hg hd hn ho ht hz hby Dw hzl hone hsz hx hy hl h0 GA hfit
end
end Cp
namespace Cp
open Go Go.RowKit Go.Great
variable{xs:Array Operand}{ts:Array TypeId}{M:Av}{f:FuncId}{args ps:List Pr}{d:Nat}{w:World}
def Hy{α:Type}(P:Program)(f:FuncId)(args:List Pr)(pre:List Ay)(C:α->Prop)(res:α->Pr)(post:α->List Ay):Prop:=Entry P f/\∀M0 w0 S rs M w vs,BD M0 w0 S (pre++rs) M w->HL M w args vs->
 Calls P f vs.toArray w fun e w'=>∃v M' x,e= .returned v/\C x/\(res x).h M' w' v/\Ext M w M' w'/\BD M0 w0 S (post x++rs) M' w'
def RZ{α:Type}(M0:Av)(w0:World)(S:Nat->Prop)(rs:List Ay)(M1:Av)(w1:World)(C:α->Prop)(res:α->Pr)(post:α->List Ay)(e:Ending)(w':World):Prop:=∃v M' x,e= .returned v/\C x/\(res x).h M' w' v/\Ext M1 w1 M' w'/\BD M0 w0 S (post x++rs) M' w'
section
variable{P:Program}{L:Lg P}{n:Fm}{fz:Nat}{E:Env}{M0:Av}{w0:World}{S:Nat->Prop}{rs:List Ay}{α:Type}{pre:List Ay}{C:α->Prop}{res:α->Pr}{post:α->List Ay}{M1:Av}{w1:World}{g:Func}{o:Oper}{r:List Oper}{ops:Array Oper}
theorem Hy.of {c : Code} (hf : P.funcs[f]? = some g) (hb : g.body = some c) (hname : (g.name == "runtime.NumGoroutine") = false) (hlen : ps.length ≤ g.ntmps) (h : ∀ M0 w0 S rs M1 w1, Tr (YJ P) g.ntmps (L5 0 ps) (Hp M0 w0 S (pre ++ Ao M1 w1 :: rs)) c (bodyPost P g (RZ M0 w0 S rs M1 w1 C res post))) : Hy P f ps pre C res post := by
 refine⟨⟨g,hf,hname,by rw[hb];rfl⟩,fun M0 w0 S rs M w vs hI hv=>?_⟩;refine calls_of_wp hf hb (h M0 w0 S rs M w _ _ ⟨M,?_,rfl,Gb hv,?_⟩)
 .
  have:=hv.length;simp[this];omega
 .exact UT
theorem BD.PJ{rest:List Ay}(hf:Hy P f args pre C res post)(hp:rs.Perm (pre++rest))(hI:BD M0 w0 S rs M w){vs:List Value}(hv:HL M w args vs):
  Calls P f vs.toArray w fun e w'=>∃v M' x,e= .returned v/\C x/\(res x).h M' w' v/\Ext M w M' w'/\BD M0 w0 S (post x++rest) M' w':=hf.2 M0 w0 S rest M w vs (BD.perm hp hI) hv
theorem TO.PJ{Q:Exit->Act->World->Prop}(rest:List Ay)(hg:o.guard=none)(hd:o.dst=some d)(hn:d<n)(ho:o.op= .call { callee:= .value (.func f),args:=xs,argTypes:=ts })(hf:Hy P f ps pre C res post)(hv:Fx E xs.toList ps)(hp:rs.Perm (pre++rest))(k:∀x,C x->TO P n ops r ((d,res x)::E) (Hp M0 w0 S (post x++rest)) Q):TO P n ops (o::r) E (Hp M0 w0 S rs) Q:=
 TO.bT hg fun K M w a hsz hdf he hI hK=>by
  have hI:BD M0 w0 S rs M w:=hI;have h1:=Fx.En (o:=o) (Cq he) (xs:=xs.toList) (fun x hx=>by simp[ho,Op.operands,Call.operands];exact .inr F_) hv
  have hrun:(execOp a.eval o).run P w= .ok (.enter f (xs.toList.map a.eval).toArray) w:=by
   simp[execOp,ho,resolve,Deferred.ofValue,Act.eval,invoke,Cz hf.1,FM xs]
  unfold Oper.wp;rw[hrun];refine(BD.PJ hf hp hI h1).mono ?_;rintro e w' ⟨v,M',x,rfl,hC,h2,h3,h4⟩;refine hK _ _ _ _ (k x hC) ⟨M',by rw[CC];exact hsz,by rw[put_defers];exact hdf,?_,h4⟩;intro s q hq;simp only[List.lookup]at hq
  by_cases hs:s=d
  .exact bJ
  .exact aX
theorem kW{l:List Ay}(h:BD M0 w0 S (l++Ao M1 w1::rs) M w):Ext M1 w1 M w/\BD M0 w0 S (l++rs) M w:=
 ⟨(h.hold (Ao M1 w1) Ai).1,(BD.perm List.perm_middle h).Hg⟩
theorem Fin.Ra{rv:ResultVar}{q:Pr}{rs':List Ay}(x:α)(hr:g.results= #[rv])(h:AL P E rs' rv q)(hC:C x)(hl:Pr.le q (res x))(hp:rs'.Perm (post x++Ao M1 w1::rs)):
  Fin ⟨fz,[]⟩ E (Hp M0 w0 S rs') (bodyPost P g (RZ M0 w0 S rs M1 w1 C res post)) .ret:=by
 rintro a w ⟨M,_,hd,he,hi⟩;have hi:BD M0 w0 S rs' M w:=hi;obtain⟨v,hv,hp'⟩:=h M w a he (fun q hq=>(hi.hold q hq).1);obtain⟨h1,h2⟩:=kW (BD.perm hp hi);exact⟨hd,v,results1 hr hv,_,M,x,rfl,hC,hl _ _ _ hp',h1,h2⟩
end
end Cp
