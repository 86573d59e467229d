/-
  Part 2 of the texts that prove this claim, merged.
-/
import Derived.Laws.MakeOwn
import Derived.Test.YteomgekmipcdpaaGreatDoorProg
import Derived.KernelRfl
import Derived.Lib.ConvBytes
import Derived.Lib.Bytealg
import Derived.Laws.StructEq
import Derived.Laws.Externs
import Derived.Lib.AtoiErrMem
import Derived.Laws.IdiomRangeMap
import Derived.Sort.LotA
import Derived.Sort.LotB
import Derived.Sort.LotC
import Derived.Lib.AppendZeros
import Derived.Lib.AppendZerosOnto
import Derived.Test.YteomgekmipcdpaaGreatDoorRbCP1
set_option linter.all false
set_option maxRecDepth 40000
set_option maxHeartbeats 16000000
namespace Cp
open Go Go.RowKit Go.Great
variable {a:Act} {ops:Array Oper} {M:Av} {new:Bool} {ps qs:List Pr} {b i j m:Nat} {o:Oper} {x:Operand} {p q:Pr} {T e t:TypeId} {v:Value} {w:World}
section
variable {P:Program} {L:Lg P} {n:Fm} {fz:Nat} {E:Env} {I:Cc} {Q:Exit→Act→World→Prop}
theorem Tr.E5 {α0:Type} (K:Env) (hK:CH E K) (F:α0→Env) (Ii:α0→Cc) (C:α0→Prop) (μ:α0→Nat) {c:Code} (Hr:α0)  (h0:C Hr) (hs:CH E (F Hr)) (hI:∀M w,I.h M w→(Ii Hr).h M w)
  (round:∀x0,C x0→Tr L n (F x0++K) (Ii x0) c (Exit.then (fun a w=>∃DH,(C DH∧μ DH<μ x0)∧St n (F DH++K) (Ii DH) a w) Q)):Tr L n E I (.loop c) Q:=
 Tr.Jc K hK (fun y:α0=>F y) (fun y=>Ii y) (fun y=>C y) (fun y=>μ y) Hr h0 hs hI fun y hy=>
  Tr.post (round y hy) fun e a w h=>by
   cases e<;>first|exact h|(obtain ⟨DH,h1,h2⟩:=h;exact ⟨DH,h1,h2⟩)
theorem Fin.GW {α0:Type} {E1:α0→Env} {I1:α0→Cc} {C:α0→Prop} (x0:α0)  (hC:C x0) (hs:CH E (E1 x0)) (hI:∀M w,I.h M w→(I1 x0).h M w):
  Fin n E I (Exit.then (fun a w=>∃DH,C DH∧St n (E1 DH) (I1 DH) a w) Q) .normal:=fun _ _ hst=>⟨x0,hC,hst.sub hs hI⟩
theorem Tr.J6 {α0:Type} (K:Env) (hK:CH E K) (F:α0→Value→Env) (Ii:α0→Value→Cc) (C:α0→Prop) (μ:α0→Nat) {c:Code} (Hr:α0) (VI:Value) (h0:C Hr) (hs:CH E (F Hr VI)) (hI:∀M w,I.h M w→(Ii Hr VI).h M w)
  (round:∀x0 v0,C x0→Tr L n (F x0 v0++K) (Ii x0 v0) c (Exit.then (fun a w=>∃DH JC,(C DH∧μ DH<μ x0)∧St n (F DH JC++K) (Ii DH JC) a w) Q)):Tr L n E I (.loop c) Q:=
 Tr.Jc K hK (fun y:α0×Value=>F y.1 y.2) (fun y=>Ii y.1 y.2) (fun y=>C y.1) (fun y=>μ y.1) (Hr,VI) h0 hs hI fun y hy=>
  Tr.post (round y.1 y.2 hy) fun e a w h=>by
   cases e<;>first|exact h|(obtain ⟨DH,JC,h1,h2⟩:=h;exact ⟨(DH,JC),h1,h2⟩)
theorem Fin.K0 {α0:Type} {E1:α0→Value→Env} {I1:α0→Value→Cc} {C:α0→Prop} (x0:α0) (v0:Value) (hC:C x0) (hs:CH E (E1 x0 v0)) (hI:∀M w,I.h M w→(I1 x0 v0).h M w):
  Fin n E I (Exit.then (fun a w=>∃DH JC,C DH∧St n (E1 DH JC) (I1 DH JC) a w) Q) .normal:=fun _ _ hst=>⟨x0,v0,hC,hst.sub hs hI⟩
theorem Tr.CM {α0 α1:Type} (K:Env) (hK:CH E K) (F:α0→α1→Env) (Ii:α0→α1→Cc) (C:α0→α1→Prop) (μ:α0→α1→Nat) {c:Code} (Hr:α0) (K1:α1)  (h0:C Hr K1) (hs:CH E (F Hr K1)) (hI:∀M w,I.h M w→(Ii Hr K1).h M w)
  (round:∀x0 x1,C x0 x1→Tr L n (F x0 x1++K) (Ii x0 x1) c (Exit.then (fun a w=>∃DH EY,(C DH EY∧μ DH EY<μ x0 x1)∧St n (F DH EY++K) (Ii DH EY) a w) Q)):Tr L n E I (.loop c) Q:=
 Tr.Jc K hK (fun y:α0×α1=>F y.1 y.2) (fun y=>Ii y.1 y.2) (fun y=>C y.1 y.2) (fun y=>μ y.1 y.2) (Hr,K1) h0 hs hI fun y hy=>
  Tr.post (round y.1 y.2 hy) fun e a w h=>by
   cases e<;>first|exact h|(obtain ⟨DH,EY,h1,h2⟩:=h;exact ⟨(DH,EY),h1,h2⟩)
theorem Fin.CC {α0 α1:Type} {E1:α0→α1→Env} {I1:α0→α1→Cc} {C:α0→α1→Prop} (x0:α0) (x1:α1)  (hC:C x0 x1) (hs:CH E (E1 x0 x1)) (hI:∀M w,I.h M w→(I1 x0 x1).h M w):
  Fin n E I (Exit.then (fun a w=>∃DH EY,C DH EY∧St n (E1 DH EY) (I1 DH EY) a w) Q) .normal:=fun _ _ hst=>⟨x0,x1,hC,hst.sub hs hI⟩
theorem Tr.Cy {α0 α1:Type} (K:Env) (hK:CH E K) (F:α0→α1→Value→Env) (Ii:α0→α1→Value→Cc) (C:α0→α1→Prop) (μ:α0→α1→Nat) {c:Code} (Hr:α0) (K1:α1) (VI:Value) (h0:C Hr K1) (hs:CH E (F Hr K1 VI)) (hI:∀M w,I.h M w→(Ii Hr K1 VI).h M w)
  (round:∀x0 x1 v0,C x0 x1→Tr L n (F x0 x1 v0++K) (Ii x0 x1 v0) c (Exit.then (fun a w=>∃DH EY JC,(C DH EY∧μ DH EY<μ x0 x1)∧St n (F DH EY JC++K) (Ii DH EY JC) a w) Q)):Tr L n E I (.loop c) Q:=
 Tr.Jc K hK (fun y:α0×α1×Value=>F y.1 y.2.1 y.2.2) (fun y=>Ii y.1 y.2.1 y.2.2) (fun y=>C y.1 y.2.1) (fun y=>μ y.1 y.2.1) (Hr,K1,VI) h0 hs hI fun y hy=>
  Tr.post (round y.1 y.2.1 y.2.2 hy) fun e a w h=>by
   cases e<;>first|exact h|(obtain ⟨DH,EY,JC,h1,h2⟩:=h;exact ⟨(DH,EY,JC),h1,h2⟩)
theorem Fin.Bg {α0 α1:Type} {E1:α0→α1→Value→Env} {I1:α0→α1→Value→Cc} {C:α0→α1→Prop} (x0:α0) (x1:α1) (v0:Value) (hC:C x0 x1) (hs:CH E (E1 x0 x1 v0)) (hI:∀M w,I.h M w→(I1 x0 x1 v0).h M w):
  Fin n E I (Exit.then (fun a w=>∃DH EY JC,C DH EY∧St n (E1 DH EY JC) (I1 DH EY JC) a w) Q) .normal:=fun _ _ hst=>⟨x0,x1,v0,hC,hst.sub hs hI⟩
theorem Tr.Gd {α0 α1 α2:Type} (K:Env) (hK:CH E K) (F:α0→α1→α2→Env) (Ii:α0→α1→α2→Cc) (C:α0→α1→α2→Prop) (μ:α0→α1→α2→Nat) {c:Code} (Hr:α0) (K1:α1) (P7:α2)  (h0:C Hr K1 P7) (hs:CH E (F Hr K1 P7)) (hI:∀M w,I.h M w→(Ii Hr K1 P7).h M w)
  (round:∀x0 x1 x2,C x0 x1 x2→Tr L n (F x0 x1 x2++K) (Ii x0 x1 x2) c (Exit.then (fun a w=>∃DH EY GX,(C DH EY GX∧μ DH EY GX<μ x0 x1 x2)∧St n (F DH EY GX++K) (Ii DH EY GX) a w) Q)):Tr L n E I (.loop c) Q:=
 Tr.Jc K hK (fun y:α0×α1×α2=>F y.1 y.2.1 y.2.2) (fun y=>Ii y.1 y.2.1 y.2.2) (fun y=>C y.1 y.2.1 y.2.2) (fun y=>μ y.1 y.2.1 y.2.2) (Hr,K1,P7) h0 hs hI fun y hy=>
  Tr.post (round y.1 y.2.1 y.2.2 hy) fun e a w h=>by
   cases e<;>first|exact h|(obtain ⟨DH,EY,GX,h1,h2⟩:=h;exact ⟨(DH,EY,GX),h1,h2⟩)
theorem Fin.DE {α0 α1 α2:Type} {E1:α0→α1→α2→Env} {I1:α0→α1→α2→Cc} {C:α0→α1→α2→Prop} (x0:α0) (x1:α1) (x2:α2)  (hC:C x0 x1 x2) (hs:CH E (E1 x0 x1 x2)) (hI:∀M w,I.h M w→(I1 x0 x1 x2).h M w):
  Fin n E I (Exit.then (fun a w=>∃DH EY GX,C DH EY GX∧St n (E1 DH EY GX) (I1 DH EY GX) a w) Q) .normal:=fun _ _ hst=>⟨x0,x1,x2,hC,hst.sub hs hI⟩
theorem Tr.E6 {α0 α1 α2:Type} (K:Env) (hK:CH E K) (F:α0→α1→α2→Value→Env) (Ii:α0→α1→α2→Value→Cc) (C:α0→α1→α2→Prop) (μ:α0→α1→α2→Nat) {c:Code} (Hr:α0) (K1:α1) (P7:α2) (VI:Value) (h0:C Hr K1 P7) (hs:CH E (F Hr K1 P7 VI)) (hI:∀M w,I.h M w→(Ii Hr K1 P7 VI).h M w)
  (round:∀x0 x1 x2 v0,C x0 x1 x2→Tr L n (F x0 x1 x2 v0++K) (Ii x0 x1 x2 v0) c (Exit.then (fun a w=>∃DH EY GX JC,(C DH EY GX∧μ DH EY GX<μ x0 x1 x2)∧St n (F DH EY GX JC++K) (Ii DH EY GX JC) a w) Q)):Tr L n E I (.loop c) Q:=
 Tr.Jc K hK (fun y:α0×α1×α2×Value=>F y.1 y.2.1 y.2.2.1 y.2.2.2) (fun y=>Ii y.1 y.2.1 y.2.2.1 y.2.2.2) (fun y=>C y.1 y.2.1 y.2.2.1) (fun y=>μ y.1 y.2.1 y.2.2.1) (Hr,K1,P7,VI) h0 hs hI fun y hy=>
  Tr.post (round y.1 y.2.1 y.2.2.1 y.2.2.2 hy) fun e a w h=>by
   cases e<;>first|exact h|(obtain ⟨DH,EY,GX,JC,h1,h2⟩:=h;exact ⟨(DH,EY,GX,JC),h1,h2⟩)
theorem Fin.Di {α0 α1 α2:Type} {E1:α0→α1→α2→Value→Env} {I1:α0→α1→α2→Value→Cc} {C:α0→α1→α2→Prop} (x0:α0) (x1:α1) (x2:α2) (v0:Value) (hC:C x0 x1 x2) (hs:CH E (E1 x0 x1 x2 v0)) (hI:∀M w,I.h M w→(I1 x0 x1 x2 v0).h M w):
  Fin n E I (Exit.then (fun a w=>∃DH EY GX JC,C DH EY GX∧St n (E1 DH EY GX JC) (I1 DH EY GX JC) a w) Q) .normal:=fun _ _ hst=>⟨x0,x1,x2,v0,hC,hst.sub hs hI⟩
theorem Tr.lR {α0 α1 α2 α3:Type} (K:Env) (hK:CH E K) (F:α0→α1→α2→α3→Env) (Ii:α0→α1→α2→α3→Cc) (C:α0→α1→α2→α3→Prop) (μ:α0→α1→α2→α3→Nat) {c:Code} (Hr:α0) (K1:α1) (P7:α2) (dJ:α3)  (h0:C Hr K1 P7 dJ) (hs:CH E (F Hr K1 P7 dJ)) (hI:∀M w,I.h M w→(Ii Hr K1 P7 dJ).h M w)
  (round:∀x0 x1 x2 x3,C x0 x1 x2 x3→Tr L n (F x0 x1 x2 x3++K) (Ii x0 x1 x2 x3) c (Exit.then (fun a w=>∃DH EY GX Li,(C DH EY GX Li∧μ DH EY GX Li<μ x0 x1 x2 x3)∧St n (F DH EY GX Li++K) (Ii DH EY GX Li) a w) Q)):Tr L n E I (.loop c) Q:=
 Tr.Jc K hK (fun y:α0×α1×α2×α3=>F y.1 y.2.1 y.2.2.1 y.2.2.2) (fun y=>Ii y.1 y.2.1 y.2.2.1 y.2.2.2) (fun y=>C y.1 y.2.1 y.2.2.1 y.2.2.2) (fun y=>μ y.1 y.2.1 y.2.2.1 y.2.2.2) (Hr,K1,P7,dJ) h0 hs hI fun y hy=>
  Tr.post (round y.1 y.2.1 y.2.2.1 y.2.2.2 hy) fun e a w h=>by
   cases e<;>first|exact h|(obtain ⟨DH,EY,GX,Li,h1,h2⟩:=h;exact ⟨(DH,EY,GX,Li),h1,h2⟩)
theorem Fin.M_ {α0 α1 α2 α3:Type} {E1:α0→α1→α2→α3→Env} {I1:α0→α1→α2→α3→Cc} {C:α0→α1→α2→α3→Prop} (x0:α0) (x1:α1) (x2:α2) (x3:α3)  (hC:C x0 x1 x2 x3) (hs:CH E (E1 x0 x1 x2 x3)) (hI:∀M w,I.h M w→(I1 x0 x1 x2 x3).h M w):
  Fin n E I (Exit.then (fun a w=>∃DH EY GX Li,C DH EY GX Li∧St n (E1 DH EY GX Li) (I1 DH EY GX Li) a w) Q) .normal:=fun _ _ hst=>⟨x0,x1,x2,x3,hC,hst.sub hs hI⟩
theorem Tr.lS {α0 α1 α2 α3:Type} (K:Env) (hK:CH E K) (F:α0→α1→α2→α3→Value→Env) (Ii:α0→α1→α2→α3→Value→Cc) (C:α0→α1→α2→α3→Prop) (μ:α0→α1→α2→α3→Nat) {c:Code} (Hr:α0) (K1:α1) (P7:α2) (dJ:α3) (VI:Value) (h0:C Hr K1 P7 dJ) (hs:CH E (F Hr K1 P7 dJ VI)) (hI:∀M w,I.h M w→(Ii Hr K1 P7 dJ VI).h M w)
  (round:∀x0 x1 x2 x3 v0,C x0 x1 x2 x3→Tr L n (F x0 x1 x2 x3 v0++K) (Ii x0 x1 x2 x3 v0) c (Exit.then (fun a w=>∃DH EY GX Li JC,(C DH EY GX Li∧μ DH EY GX Li<μ x0 x1 x2 x3)∧St n (F DH EY GX Li JC++K) (Ii DH EY GX Li JC) a w) Q)):Tr L n E I (.loop c) Q:=
 Tr.Jc K hK (fun y:α0×α1×α2×α3×Value=>F y.1 y.2.1 y.2.2.1 y.2.2.2.1 y.2.2.2.2) (fun y=>Ii y.1 y.2.1 y.2.2.1 y.2.2.2.1 y.2.2.2.2) (fun y=>C y.1 y.2.1 y.2.2.1 y.2.2.2.1) (fun y=>μ y.1 y.2.1 y.2.2.1 y.2.2.2.1) (Hr,K1,P7,dJ,VI) h0 hs hI fun y hy=>
  Tr.post (round y.1 y.2.1 y.2.2.1 y.2.2.2.1 y.2.2.2.2 hy) fun e a w h=>by
   cases e<;>first|exact h|(obtain ⟨DH,EY,GX,Li,JC,h1,h2⟩:=h;exact ⟨(DH,EY,GX,Li,JC),h1,h2⟩)
theorem Fin.tR {α0 α1 α2 α3:Type} {E1:α0→α1→α2→α3→Value→Env} {I1:α0→α1→α2→α3→Value→Cc} {C:α0→α1→α2→α3→Prop} (x0:α0) (x1:α1) (x2:α2) (x3:α3) (v0:Value) (hC:C x0 x1 x2 x3) (hs:CH E (E1 x0 x1 x2 x3 v0)) (hI:∀M w,I.h M w→(I1 x0 x1 x2 x3 v0).h M w):
  Fin n E I (Exit.then (fun a w=>∃DH EY GX Li JC,C DH EY GX Li∧St n (E1 DH EY GX Li JC) (I1 DH EY GX Li JC) a w) Q) .normal:=fun _ _ hst=>⟨x0,x1,x2,x3,v0,hC,hst.sub hs hI⟩
theorem Tr.lT {α0 α1 α2 α3:Type} (K:Env) (hK:CH E K) (F:α0→α1→α2→α3→Value→Value→Env) (Ii:α0→α1→α2→α3→Value→Value→Cc) (C:α0→α1→α2→α3→Prop) (μ:α0→α1→α2→α3→Nat) {c:Code} (Hr:α0) (K1:α1) (P7:α2) (dJ:α3) (VI:Value) (v1s:Value) (h0:C Hr K1 P7 dJ) (hs:CH E (F Hr K1 P7 dJ VI v1s)) (hI:∀M w,I.h M w→(Ii Hr K1 P7 dJ VI v1s).h M w)
  (round:∀x0 x1 x2 x3 v0 v1,C x0 x1 x2 x3→Tr L n (F x0 x1 x2 x3 v0 v1++K) (Ii x0 x1 x2 x3 v0 v1) c (Exit.then (fun a w=>∃DH EY GX Li JC v1',(C DH EY GX Li∧μ DH EY GX Li<μ x0 x1 x2 x3)∧St n (F DH EY GX Li JC v1'++K) (Ii DH EY GX Li JC v1') a w) Q)):Tr L n E I (.loop c) Q:=
 Tr.Jc K hK (fun y:α0×α1×α2×α3×Value×Value=>F y.1 y.2.1 y.2.2.1 y.2.2.2.1 y.2.2.2.2.1 y.2.2.2.2.2) (fun y=>Ii y.1 y.2.1 y.2.2.1 y.2.2.2.1 y.2.2.2.2.1 y.2.2.2.2.2) (fun y=>C y.1 y.2.1 y.2.2.1 y.2.2.2.1) (fun y=>μ y.1 y.2.1 y.2.2.1 y.2.2.2.1) (Hr,K1,P7,dJ,VI,v1s) h0 hs hI fun y hy=>
  Tr.post (round y.1 y.2.1 y.2.2.1 y.2.2.2.1 y.2.2.2.2.1 y.2.2.2.2.2 hy) fun e a w h=>by
   cases e<;>first|exact h|(obtain ⟨DH,EY,GX,Li,JC,v1',h1,h2⟩:=h;exact ⟨(DH,EY,GX,Li,JC,v1'),h1,h2⟩)
theorem Fin.tS {α0 α1 α2 α3:Type} {E1:α0→α1→α2→α3→Value→Value→Env} {I1:α0→α1→α2→α3→Value→Value→Cc} {C:α0→α1→α2→α3→Prop} (x0:α0) (x1:α1) (x2:α2) (x3:α3) (v0:Value) (v1:Value) (hC:C x0 x1 x2 x3) (hs:CH E (E1 x0 x1 x2 x3 v0 v1)) (hI:∀M w,I.h M w→(I1 x0 x1 x2 x3 v0 v1).h M w):
  Fin n E I (Exit.then (fun a w=>∃DH EY GX Li JC v1',C DH EY GX Li∧St n (E1 DH EY GX Li JC v1') (I1 DH EY GX Li JC v1') a w) Q) .normal:=fun _ _ hst=>⟨x0,x1,x2,x3,v0,v1,hC,hst.sub hs hI⟩
end
structure DS where
 l:List Int
 at_:Nat
 h:at_≤l.length
 h2:l.length≤1000000000
def DS.val (s:DS) (n:Int):Int:=match s.l[s.at_]? with|some x=>x % n|none=>0
def DS.Cd (s:DS):DS:=if h:s.at_<s.l.length then ⟨s.l,s.at_+1,h,s.h2⟩ else s
theorem DS.DF (s:DS) {n:Int} (hn:1≤n):0≤s.val n∧s.val n<n:=by
 unfold DS.val
 split
 · exact ⟨Int.emod_nonneg _ AA,Int.emod_lt_of_pos _ AA⟩
 · omega
theorem DS.tT {s:DS} (h:s.l.length≤s.at_) (n:Int):s.val n=0:=by
 unfold DS.val;rw [List.getElem?_eq_none h]
theorem DS.tU {s:DS} (h:s.l.length≤s.at_):s.Cd=s:=by
 unfold DS.Cd;rw [dif_neg AA]
theorem DS.zh {s:DS} {x:Int} (h:s.l[s.at_]? =some x) (n:Int):s.val n=x % n:=by
 unfold DS.val;rw [h]
theorem DS.zi {s:DS} (h:s.at_<s.l.length):s.Cd=⟨s.l,s.at_+1,h,s.h2⟩:=by
 unfold DS.Cd;rw [dif_pos h]
def OC (s:DS):List Pr:=[slice 1 (s.l.map fun n=>[int n]),int ((s.at_:Nat):Int)]
def W7 (T:TypeId) (b:Nat) (s:DS):Ay:=AE true b T (OC s)
def ID (T:TypeId) (b:Nat):Ay:=M8 true b T (fun _:DS=>True) OC
def DS.of (s:DS) (l:List Int):Int:=(l[(s.val l.length).toNat]?).getD 0
theorem DS.RL (s:DS) {l:List Int} (h:l≠[]):s.of l∈l:=by
 have h0:1≤(l.length:Int):=by
  have:=List.length_pos_iff.2 h
  omega
 have:=s.DF h0
 unfold DS.of
 rw [List.getElem?_eq_getElem AA]
 exact List.getElem_mem _
section
variable {P:Program} {L:Lg P} {n:Fm} {fz:Nat} {E:Env} {M0:Av} {w0:World} {S:Nat→Prop} {rs:List Ay}
theorem Tr.RM {Q:Exit→Act→World→Prop} {c:Code} (i:Nat) (hi:rs[i]? =some (ID T b)) (k:∀s,Tr L n E (Hp M0 w0 S (rs.set i (W7 T b s))) c Q):Tr L n E (Hp M0 w0 S rs) c Q:=
 Tr.ADg i hi fun s _=>k s
theorem Fin.RM {Q:Exit→Act→World→Prop} {e:Exit} (i:Nat) (hi:rs[i]? =some (ID T b)) (k:∀s,Fin n E (Hp M0 w0 S (rs.set i (W7 T b s))) Q e):Fin n E (Hp M0 w0 S rs) Q e:=by
 rintro a w ⟨M,h1,h2,h3,h4⟩
 have h4:A8 M0 w0 S rs M w:=h4
 obtain ⟨x,hx,hh⟩:=(h4.hold _ (List.mem_of_getElem? hi)).1
 exact k x a w ⟨M,h1,h2,h3,h4.Cw hi rfl rfl hh⟩
theorem Fin.Gq {Q:Exit→Act→World→Prop} {e:Exit} (i:Nat) (s:DS) (hi:rs[i]? =some (AE true b T ps)) (hp:ps=OC s) (k:Fin n E (Hp M0 w0 S (rs.set i (ID T b))) Q e):Fin n E (Hp M0 w0 S rs) Q e:=
 Fin.OA i (fun _=>True) OC s trivial hi hp k
theorem Tr.Gq {Q:Exit→Act→World→Prop} {c:Code} (i:Nat) (s:DS) (hi:rs[i]? =some (AE true b T ps)) (hp:ps=OC s) (k:Tr L n E (Hp M0 w0 S (rs.set i (ID T b))) c Q):Tr L n E (Hp M0 w0 S rs) c Q:=
 Tr.OA i (fun _=>True) OC s trivial hi hp k
theorem TO.Mh {l:List Oper} {Q:Exit→Act→World→Prop} (s j:Nat) {f:Value→Ay} (g:Nat→Ay) (hs:E.lookup s=some (Ag v (Cp.ex fun b=>ptr b 0))) (hi:rs[j]? =some (f v)) (hf:∀b,f (.pointer (some ⟨b,0,none⟩))=g b) (k:∀b,TO P n ops l ((s,ptr b 0)::E) (Hp M0 w0 S (rs.set j (g b))) Q):TO P n ops l E (Hp M0 w0 S rs) Q:=by
 intro k0 hl a w hst
 obtain ⟨M,h1,h2,he,h4⟩:=hst
 obtain ⟨h5,b,h6⟩:=he s _ hs
 have hv:v= .pointer (some ⟨b,0,none⟩):=by rw [←h5];exact h6
 have hj:rs.set j (g b)=rs:=by
  have hjl:j<rs.length:=by rcases Nat.lt_or_ge j rs.length with h|h;exact h;rw [List.getElem?_eq_none h] at hi;cases hi
  rw [←hf b,←hv]
  rw [List.getElem?_eq_getElem hjl] at hi
  simp at hi
  rw [←hi,List.set_getElem_self]
 refine k b k0 hl a w ⟨M,h1,h2,?_,by rw [hj];exact h4⟩
 intro t q hq
 simp only [List.lookup] at hq
 by_cases ht:t=s
 · subst ht;simp at hq;subst hq;exact h6
 · exact Nz
def HF (r:ResultVar) (a:Act):Sem Value:=match r with| .tmp t=>pure (a.tmps.getD t undef)| .cell c t=>do loadVar t (←asAddr (a.tmps.getD c undef))
def AQ (P:Program) (E:Env) (rs:List Ay) (r:ResultVar) (p:Pr):Prop:=∀(M:Av) (w:World) (a:Act),Fc M w E a→(∀q∈rs,q.h M w)→∃v,(HF r a).run P w= .ok v w∧p.h M w v
theorem AQ.tmp {t:Tmp} (h:E.lookup t=some q) (hl:Pr.le q p):AQ P E rs (.tmp t) p:=fun _ _ _ he _=>⟨_,rfl,hl _ _ _ (he _ _ h)⟩
theorem AQ.cell (i:Nat) {c:Tmp} (h:E.lookup c=some (ptr b 0)) (hi:rs[i]? =some (AE new b T ps)) (ht:Em P t=true) (hz:Az P t=some m) (hm:ps.length=m) (hl:Pr.le (agg ps) p):AQ P E rs (.cell c t) p:=by
 intro M w a he hr
 obtain ⟨v,h1,h2⟩:=lN ht hz hm (hr _ (List.mem_of_getElem? hi))
 refine ⟨v,?_,hl _ _ _ h2⟩
 have hc:a.tmps.getD c undef= .pointer (some ⟨b,0,none⟩):=he _ _ h
 unfold HF
 simp only [hc,asAddr]
 simpa [Sem.run_bind] using h1
theorem HG (g:Func) (a:Act):results g a.tmps=(do let vs ←g.results.mapM (fun r=>HF r a);pure (if h:vs.size=1 then vs[0] else .tuple vs)):=by
 have:(fun r:ResultVar=>HF r a)=(fun| .tmp t=>pure (a.tmps.getD t undef)| .cell c t=>do loadVar t (←asAddr (a.tmps.getD c undef))):=by
  funext r;cases r<;>rfl
 rw [this];rfl
theorem results1 {g:Func} {r:ResultVar} (hr:g.results= #[r]) (h:(HF r a).run P w= .ok v w):(results g a.tmps).run P w= .ok v w:=by
 rw [HG,hr];simp [Sem.run_bind,h]
theorem results2 {g:Func} {r r':ResultVar} {v':Value} (hr:g.results= #[r,r']) (h:(HF r a).run P w= .ok v w) (h':(HF r' a).run P w= .ok v' w):(results g a.tmps).run P w= .ok (.tuple #[v,v']) w:=by
 rw [HG,hr];simp [Sem.run_bind,h,h']
theorem results3 {g:Func} {r r' r'':ResultVar} {v' v'':Value} (hr:g.results= #[r,r',r'']) (h:(HF r a).run P w= .ok v w) (h':(HF r' a).run P w= .ok v' w) (h'':(HF r'' a).run P w= .ok v'' w):(results g a.tmps).run P w= .ok (.tuple #[v,v',v'']) w:=by
 rw [HG,hr];simp [Sem.run_bind,h,h',h'']
theorem A8.P8 {M:Av} {w:World}:∀{pre:List Ay},A8 M0 w0 S (pre++rs) M w→A8 M0 w0 S rs M w
 |[],h=>h
 |_::_,h=>A8.P8 h.J5
variable {g:Func} {M1:Av} {w1:World}
theorem Fin.CY {r:ResultVar} (hr:g.results= #[r]) (h:AQ P E rs r q) (hl:Pr.le q p):Fin ⟨fz,[]⟩ E (Hp M0 w0 FG rs) (bodyPost P g (Q9 M0 w0 p)) .ret:=by
 rintro a w ⟨M,_,hd,he,hi⟩
 obtain ⟨v,hv,hp⟩:=h M w a he (fun q hq=>(hi.hold q hq).1)
 obtain ⟨h1,h2⟩:=Bt.Dx M0 w0 M w hi
 exact ⟨hd,v,results1 hr hv,_,rfl,p.st _ _ _ _ _ (Ext.less h1) (hl _ _ _ hp),h2⟩
theorem Fin.BW {r r':ResultVar} {q':Pr} (hr:g.results= #[r,r']) (h:AQ P E rs r q) (h':AQ P E rs r' q') (hl:Pr.le (DW [q,q']) p):Fin ⟨fz,[]⟩ E (Hp M0 w0 FG rs) (bodyPost P g (Q9 M0 w0 p)) .ret:=by
 rintro a w ⟨M,_,hd,he,hi⟩
 obtain ⟨v,hv,hp⟩:=h M w a he (fun q hq=>(hi.hold q hq).1)
 obtain ⟨v',lU,hp'⟩:=h' M w a he (fun q hq=>(hi.hold q hq).1)
 obtain ⟨h1,h2⟩:=Bt.Dx M0 w0 M w hi
 exact ⟨hd,_,results2 hr hv lU,_,rfl,p.st _ _ _ _ _ (Ext.less h1) (hl _ _ _ ⟨[_,_],rfl,hp,hp',trivial⟩),h2⟩
theorem Fin.FN {r r' r'':ResultVar} {q' lF:Pr} (hr:g.results= #[r,r',r'']) (h:AQ P E rs r q) (h':AQ P E rs r' q') (h'':AQ P E rs r'' lF) (hl:Pr.le (DW [q,q',lF]) p):Fin ⟨fz,[]⟩ E (Hp M0 w0 FG rs) (bodyPost P g (Q9 M0 w0 p)) .ret:=by
 rintro a w ⟨M,_,hd,he,hi⟩
 obtain ⟨v,hv,hp⟩:=h M w a he (fun q hq=>(hi.hold q hq).1)
 obtain ⟨v',lU,hp'⟩:=h' M w a he (fun q hq=>(hi.hold q hq).1)
 obtain ⟨v'',lV,lW⟩:=h'' M w a he (fun q hq=>(hi.hold q hq).1)
 obtain ⟨h1,h2⟩:=Bt.Dx M0 w0 M w hi
 exact ⟨hd,_,results3 hr hv lU lV,_,rfl,p.st _ _ _ _ _ (Ext.less h1) (hl _ _ _ ⟨[_,_,_],rfl,hp,hp',lW,trivial⟩),h2⟩
theorem Fin.Fh (pre:List Ay) {r:ResultVar} {R:Ay} {R':Value→Ay} (hr:g.results= #[r]) (h:AQ P E (pre++R::Ac M1 w1::rs) r q) (hl:Pr.le q p) (hR:∀M w v,q.h M w v→R' v=R):
  Fin ⟨fz,[]⟩ E (Hp M0 w0 S (pre++R::Ac M1 w1::rs)) (bodyPost P g (Lf M0 w0 S rs M1 w1 p R')) .ret:=by
 rintro a w ⟨M,_,hd,he,hi⟩
 obtain ⟨v,hv,hp⟩:=h M w a he (fun q hq=>(hi.hold q hq).1)
 obtain ⟨h1,h2⟩:=ZT (A8.P8 hi)
 exact ⟨hd,v,results1 hr hv,_,M,rfl,hl _ _ _ hp,h1,by rw [hR _ _ _ hp];exact h2⟩
theorem Fin.J7 (pre:List Ay) {r r':ResultVar} {R:Ay} {q':Pr} (hr:g.results= #[r,r']) (h:AQ P E (pre++R::Ac M1 w1::rs) r q) (h':AQ P E (pre++R::Ac M1 w1::rs) r' q') (hl:Pr.le (DW [q,q']) p):
  Fin ⟨fz,[]⟩ E (Hp M0 w0 S (pre++R::Ac M1 w1::rs)) (bodyPost P g (Lf M0 w0 S rs M1 w1 p (fun _=>R))) .ret:=by
 rintro a w ⟨M,_,hd,he,hi⟩
 obtain ⟨v,hv,hp⟩:=h M w a he (fun q hq=>(hi.hold q hq).1)
 obtain ⟨v',lU,hp'⟩:=h' M w a he (fun q hq=>(hi.hold q hq).1)
 obtain ⟨h1,h2⟩:=ZT (A8.P8 hi)
 exact ⟨hd,_,results2 hr hv lU,_,M,rfl,hl _ _ _ ⟨[_,_],rfl,hp,hp',trivial⟩,h1,h2⟩
theorem Fin.yO (pre:List Ay) {r r' r'':ResultVar} {R:Ay} {q' lF:Pr} (hr:g.results= #[r,r',r'']) (h:AQ P E (pre++R::Ac M1 w1::rs) r q) (h':AQ P E (pre++R::Ac M1 w1::rs) r' q') (h'':AQ P E (pre++R::Ac M1 w1::rs) r'' lF) (hl:Pr.le (DW [q,q',lF]) p):
  Fin ⟨fz,[]⟩ E (Hp M0 w0 S (pre++R::Ac M1 w1::rs)) (bodyPost P g (Lf M0 w0 S rs M1 w1 p (fun _=>R))) .ret:=by
 rintro a w ⟨M,_,hd,he,hi⟩
 obtain ⟨v,hv,hp⟩:=h M w a he (fun q hq=>(hi.hold q hq).1)
 obtain ⟨v',lU,hp'⟩:=h' M w a he (fun q hq=>(hi.hold q hq).1)
 obtain ⟨v'',lV,lW⟩:=h'' M w a he (fun q hq=>(hi.hold q hq).1)
 obtain ⟨h1,h2⟩:=ZT (A8.P8 hi)
 exact ⟨hd,_,results3 hr hv lU lV,_,M,rfl,hl _ _ _ ⟨[_,_,_],rfl,hp,hp',lW,trivial⟩,h1,h2⟩
theorem As {α:Type} {p:α→Pr} (x:α) (h:Pr.le q (p x)):Pr.le q (Cp.ex p):=fun M w v hv=>⟨x,h M w v hv⟩
theorem Ar {φ:Prop} (hφ:φ) (h:Pr.le q p):Pr.le q (fact φ p):=fun M w v hv=>⟨hφ,h M w v hv⟩
end
section
variable {P:Program} {L:Lg P} {n:Fm} {fz:Nat} {E:Env} {M0:Av} {w0:World} {S:Nat→Prop} {rs:List SR} {o:Oper}
theorem GD {q:Tmp} {off:Nat} [One p] (hg:o.guard=none) (hd:o.dst=none) (ho:o.op= .store t x (.tmp q)) (hx:VL E x (ptr b off)) (hy:E.lookup q=some p) (hz:Az P t=some 1) (hl:off+1≤ps.length):DY P M0 w0 S n j (SR.c (AE new b T ps)) ⟨q,fun v=>AE new b T (ps.take off++[Ag v p]++ps.drop (off+1))⟩ o E any:=by
 refine ⟨hg,fun M w a rs hsz he hI hj=> ?_⟩
 have h1:a.eval x= .pointer (some ⟨b,off,none⟩):=hx.ev he Ap
 have hv:VL E (.tmp q) p:=⟨_,hy,Pr.le_refl _⟩
 have hp:=hv.ev he (show (Operand.tmp q)∈o.op.operands.toList by simp [ho,Op.operands])
 obtain ⟨h2,h3⟩:=(VL.le hv (AO p)).ev he (show (Operand.tmp q)∈o.op.operands.toList by simp [ho,Op.operands])
 obtain ⟨⟨_,cs,h4,h5,h6⟩,_⟩:=hI.hold _ (List.mem_of_getElem? hj)
 have h5l:=h5.length
 have h2l:=h2.length
 have hone:(a.eval (.tmp q)).cells= #[a.eval (.tmp q)]:=(One.one (p:=p) M w _ hp).1
 have h2':HL M w [Ag (a.eval (.tmp q)) p] (a.eval (.tmp q)).cells.toList:=by rw [hone];exact ⟨⟨rfl,hp⟩,trivial⟩
 have hcells:(a.eval (.tmp q)).cells.size=1:=by rw [hone];rfl
 have hrun:(storeCells ⟨b,off,none⟩ (a.eval (.tmp q)).cells.toList 0).run P w= .ok () (w.setRow b (cs.take off++(a.eval (.tmp q)).cells.toList++cs.drop (off+1)).toArray):=by
  have:=run_storeCells_at (P:=P) b off T (a.eval (.tmp q)).cells.toList 0 cs.toArray w h4 (by simp [hcells];omega) h3
  simpa [hcells] using this
 have Ep:(execOp a.eval o).run P w= .ok .skip (w.setRow b (cs.take off++(a.eval (.tmp q)).cells.toList++cs.drop (off+1)).toArray):=by
  simp [execOp,ho,h1,Instr.storeAt,Instr.sureAddr,storeVar,CL hz,hcells,hrun]
 rw [Ep]
 obtain ⟨h7, h8⟩ := A8.write (qs := ps.take off ++ [Ag (a.eval (.tmp q)) p] ++ ps.drop (off + 1)) (cs := cs.take off ++ (a.eval (.tmp q)).cells.toList ++ cs.drop (off + 1)) hI hj ((((h5.take off).app h2')).app (h5.drop (off + 1)))
  (fun c hc=>by
   simp only [List.mem_append] at hc
   rcases hc with (hc|hc)|hc
   · grind
   · exact h3 c hc
   · exact h6 c (List.mem_of_mem_drop hc))
 refine ⟨M,trivial,h8,?_⟩
 have hput:SR.at_ (a.put o.dst undef) ⟨q,fun v=>AE new b T (ps.take off++[Ag v p]++ps.drop (off+1))⟩=AE new b T (ps.take off++[Ag (a.eval (.tmp q)) p]++ps.drop (off+1)):=by rw [hd];rfl
 rw [hput];exact h7
theorem lX {s:Nat} {f:Value→Ay} (hR:rs[j]? =some ⟨s,f⟩) (a:Act):(rs.set j (SR.c (f (a.tmps.getD s undef)))).map (·.at_ a)=rs.map (·.at_ a):=by
 rw [List.map_set]
 apply List.ext_getElem?
 intro i
 rw [List.getElem?_set]
 by_cases hij:j=i
 ·
  subst hij
  rw [if_pos rfl]
  split
  · rw [List.getElem?_map,hR];rfl
  · grind
 · rw [if_neg hij]
theorem BE.RN {Q:Exit→Act→World→Prop} (j i s:Nat) {f g:Value→Ay} (hR:rs[j]? =some ⟨s,f⟩) (hR':rs[i]? =some ⟨s,g⟩) (hij:j≠i) (hs:E.lookup s=some p) (k:∀v,BE n M0 w0 S ((s,Ag v p)::E) ((rs.set j (SR.c (f v))).set i (SR.c (g v))) Q):BE n M0 w0 S E rs Q:=by
 rintro a w ⟨M,h1,h2,h3,h4⟩
 refine k (a.tmps.getD s undef) a w ⟨M,h1,h2,?_,?_⟩
 ·
  intro t q hq
  simp only [List.lookup] at hq
  by_cases ht:t=s
  · exact cB
  · rw [show (t==s)=false by simpa using ht] at hq;exact h3 t q hq
 · rw [lX (rs:=rs.set j (SR.c (f (a.tmps.getD s undef)))) (j:=i) (s:=s) (f:=g) (by rw [List.getElem?_set,if_neg hij];exact hR') a,lX hR a];exact h4
end
section
variable {P:Program} {L:Lg P} {n:Fm} {fz:Nat} {E:Env} {M0:Av} {w0:World} {S:Nat→Prop} {rs:List Ay}
theorem St.Iw (j:Nat) (hi:rs[j]? =some (AE new b T ps)) (h:PR ps qs) (hs:St n E (Hp M0 w0 S rs) a w):St n E (Hp M0 w0 S (rs.set j (AE new b T qs))) a w:=by
 obtain ⟨M,h1,h2,h3,h4⟩:=hs
 have h4:A8 M0 w0 S rs M w:=h4
 obtain ⟨h5,cs,h6,h7,h8⟩:=(h4.hold _ (List.mem_of_getElem? hi)).1
 exact ⟨M,h1,h2,h3,h4.Cw hi rfl rfl ⟨h5,cs,h6,h.hl h7,h8⟩⟩
theorem Tr.Iw {Q:Exit→Act→World→Prop} {c:Code} (j:Nat) (qs:List Pr) (hi:rs[j]? =some (AE new b T ps)) (h:PR ps qs) (k:Tr L n E (Hp M0 w0 S (rs.set j (AE new b T qs))) c Q):Tr L n E (Hp M0 w0 S rs) c Q:=
 Tr.conv (fun _ _ hs=>hs.Iw j hi h) k
theorem Fin.Iw {Q:Exit→Act→World→Prop} {e:Exit} (j:Nat) (qs:List Pr) (hi:rs[j]? =some (AE new b T ps)) (h:PR ps qs) (k:Fin n E (Hp M0 w0 S (rs.set j (AE new b T qs))) Q e):Fin n E (Hp M0 w0 S rs) Q e:=
 Fin.conv (fun _ _ hs=>hs.Iw j hi h) k
end
section
variable {P:Program} {L:Lg P} {n:Fm} {fz:Nat} {E:Env} {M0:Av} {w0:World} {S:Nat→Prop} {rs:List Ay}
abbrev Jp (m b:Nat):Value:= .slice (some ⟨b,0,none⟩) m m
theorem TO.VJ {r:List Oper} {Q:Exit→Act→World→Prop} {d gP:Nat} {y:Operand} {z:Value} (hg:o.guard=none) (hd:o.dst=some d) (hn:d<n) (ho:o.op= .makeSlice t x y) (ht:P.underlying t=some (.slice e)) (hs:Az P e=some 1) (hby:Br P e=some gP) (hz:BM P e=some [z]) (h1:z.oneCell'=true) (hx:VL E x (int ((m:Nat):Int))) (hy:VL E y (int ((m:Nat):Int))) (hm:m≤maxLen) (hb:gP*m≤281474976710656) (k:∀b,TO P n ops r ((d,is (Jp m b))::E) (Hp M0 w0 S (AE true b e ((List.replicate m z).map is)::rs)) Q):TO P n ops (o::r) E (Hp M0 w0 S rs) Q:=
 TO.ZM hg fun K M w a hsz hdf he hI hK=>by
  have hx1:a.eval x= .int .i64 m:=hx.ev (o:=o) (CR he) Ap
  have hy1:a.eval y= .int .i64 m:=hy.ev (o:=o) (CR he) Ap
  have hi:∃i,P.info? e=some i∧i.size=1∧i.bytes=gP∧∃z',i.zero=some z'∧z'.cells= #[z]:=by
   unfold Az at hs;unfold Br at hby;unfold BM at hz
   cases hi:P.info? e with
   |none=>rw [hi] at hs;cases hs
   |some i=>
    rw [hi] at hs hby hz
    simp at hs hby hz
    obtain ⟨z',h2,h3⟩:=hz
    exact ⟨i,rfl,hs,hby,z',h2,by rw [←Array.toList_inj,h3]⟩
  obtain ⟨i,hi,hi1,hi2,z',E2,HW⟩:=hi
  have hmk:madeCells z'.cells m=(List.replicate m z).toArray:=by
   rw [HW]
   apply Array.ext
   · simp [madeCells]
   ·
    intro j h1 h2
    simp [madeCells,Nat.mod_one]
  have hrun:=run_make (P:=P) w t e i z' ht hi E2 .i64 .i64 (m:Int) (m:Int) AA (Int.le_refl _) (by rw [hi2];have h0:((gP*m:Nat):Int)≤281474976710656:=Int.ofNat_le.2 hb;rw [←Int.natCast_mul];exact h0) U7
  rw [hi1] at hrun
  simp only [Int.toNat_natCast,Nat.mul_one] at hrun
  rw [hmk] at hrun
  refine TO.val (v:=Jp m w.heap.size) (w':=w.alloc (.cells (List.replicate m z).toArray e)) ?_ ?_
  · simp [execOp,ho,hx1,hy1,hrun]
  ·
   obtain ⟨h2,h3⟩:=A8.add (T:=e) hI (J3 M w (List.replicate m z)) (fun c hc=>by rw [List.eq_of_mem_replicate hc];exact h1)
   refine hK _ _ _ _ (k w.heap.size) ⟨_,by rw [B4];exact hsz,by rw [put_defers];exact hdf,?_,h2⟩
   intro s p hp
   simp only [List.lookup] at hp
   by_cases hs:s=d
   · exact Ny
   ·
    rw [show (s==d)=false by simpa using hs] at hp
    rw [hd,BQ hs]
    exact p.st _ _ _ _ _ h3 (he s p hp)
theorem AH {I:Cc} {y:Operand} {k:IntKind} {i:Int} {len cap sz off:Nat} (ho:o.op= .indexAddr t x y) (ht:P.underlying t=some (.slice e)) (hz:Az P e=some sz) (hx:VL E x (is (.slice (some ⟨b,off,none⟩) len cap))) (hy:VL E y (is (.int k i))) (h0:0≤i) (hl:i<len):Ab P I o E (ptr b (off+i.toNat*sz)):=
 Ab.same fun M w a he _=>by
  have h1:a.eval x=_:=hx.ev he Ap
  have h5:a.eval y= .int k i:=hy.ev he Ap
  refine ⟨_,?_,rfl⟩
  simp [execOp,ho,h1,h5,Instr.indexAt,asIntOf,run_underlying ht,CL hz,h0,hl,Ff]
def Dj (e:TypeId):List Nat→List (List Pr)→List Ay
 |b::bs,r::Fx=>AE true b e r::Dj e bs Fx
 |_,_=>[]
theorem Tt {e:TypeId} {b:Nat} {r:List Pr}:∀{bs:List Nat} {Fx:List (List Pr)},bs.length=Fx.length→(Dj e (bs++[b]) (Fx++[r])).Perm (AE true b e r::Dj e bs Fx)
 |[],[],_=>List.Perm.refl _
 |c::bs,q::Fx,h=>((Tt D5).cons _).trans (List.Perm.swap _ _ _)
 |[],_::_,h=>by simp at h
 |_::_,[],h=>by simp at h
theorem VK {e:TypeId} {b:Nat} (r':List Pr):∀{i:Nat} {bs:List Nat} {Fx:List (List Pr)},bs.length=Fx.length→bs[i]? =some b→(Dj e bs (Fx.set i r')).Perm (AE true b e r'::Dj e (bs.eraseIdx i) (Fx.eraseIdx i))
 |0,c::bs,q::Fx,_,hb=>by simp at hb;subst hb;exact List.Perm.refl _
 |i+1,c::bs,q::Fx,h,hb=>((VK r' D5 Fb).cons _).trans (List.Perm.swap _ _ _)
 |_,[],[],_,hb=>by simp at hb
 |_,[],_::_,h,_=>by simp at h
 |_,_::_,[],h,_=>by simp at h
theorem lY {r:List Pr} {bs:List Nat} {Fx:List (List Pr)} (h:bs.length=Fx.length) (hb:bs[i]? =some b) (hr:Fx[i]? =some r):(Dj e bs Fx).Perm (AE true b e r::Dj e (bs.eraseIdx i) (Fx.eraseIdx i)):=by
 have:=VK (e:=e) r h hb
 rwa [show Fx.set i r=Fx by
  have hl:i<Fx.length:=by grind
  rw [List.getElem?_eq_getElem hl] at hr;simp at hr;rw [←hr,List.set_getElem_self]] at this
theorem Tr.perm {Q:Exit→Act→World→Prop} {c:Code} {rs':List Ay} (hp:rs.Perm rs') (k:Tr L n E (Hp M0 w0 S rs') c Q):Tr L n E (Hp M0 w0 S rs) c Q:=
 Tr.conv (fun _ _ ⟨M,h1,h2,h3,h4⟩=>⟨M,h1,h2,h3,A8.perm hp h4⟩) k
theorem Fin.perm {Q:Exit→Act→World→Prop} {ex:Exit} {rs':List Ay} (hp:rs.Perm rs') (k:Fin n E (Hp M0 w0 S rs') Q ex):Fin n E (Hp M0 w0 S rs) Q ex:=
 Fin.conv (fun _ _ ⟨M,h1,h2,h3,h4⟩=>⟨M,h1,h2,h3,A8.perm hp h4⟩) k
theorem A8.P9 (h4:A8 M0 w0 S (AE true b T ps::rs) M w):∃M',A8 M0 w0 S rs M' w∧Ext M w M' w∧Row M' w ⟨b,0,none⟩ 0 ps:=by
 obtain ⟨⟨hm,cs,hh,hc,hone⟩,hbb⟩:=h4.hold _ (List.mem_cons_self ..)
 obtain ⟨hlt,hnew⟩:=hbb b rfl
 have hnew:w0.heap.size≤b:=by simpa [AE] using hnew
 have he:Ext M w (fun b' o=>M b' o∧b'≠b) w:=Ext.less fun _ _ h=>h.1
 obtain ⟨AIP,AIQ⟩:=List.pairwise_cons.1 h4.nd
 refine ⟨fun b' o=>M b' o∧b'≠b,⟨h4.m0,fun b' o' hm'=>⟨h4.m b' o' hm',fun e=> ?_⟩,h4.os,h4.tape,h4.output,h4.size,h4.block,fun b' o' hm'=>h4.bd b' o' hm'.1,fun r hr=> ?_,AIQ⟩,he,fun j p hp=> ?_⟩
 ·
  subst e
  have:=h4.m0 _ _ hm'
  omega
 ·
  obtain ⟨h5,h6⟩:=h4.hold r (List.mem_cons_of_mem _ hr)
  exact ⟨r.st _ _ _ _ he (fun b' hb'=>⟨rfl,fun o' hmo=>⟨hmo,fun e=>AIP r hr b rfl (by rw [←e];exact hb')⟩⟩) h5,h6⟩
 ·
  obtain ⟨u,hu,hpu⟩:=hc.at_ j p hp
  refine ⟨u,?_,fun hx=>hx.2 rfl,hone u (List.mem_of_getElem? hu),p.st _ _ _ _ _ he hpu⟩
  rw [show Addr.add ⟨b,0,none⟩ (0+j)=⟨b,j,none⟩ by unfold Addr.add;split<;>simp_all]
  simp [World.cell?,hh,hu]
theorem A8.GF {e:TypeId} {w:World}:∀{bs:List Nat} {Fx:List (List Pr)} {M:Av},bs.length=Fx.length→A8 M0 w0 S (Dj e bs Fx++rs) M w→∃M',A8 M0 w0 S rs M' w∧Ext M w M' w∧∀(i:Nat) b r,bs[i]? =some b→Fx[i]? =some r→Row M' w ⟨b,0,none⟩ 0 r
 |[],[],M,_,h=>⟨M,h,Ext.refl _ _,fun i b r hb=>by simp at hb⟩
 |c::bs,q::Fx,M,hl,h=>by
  obtain ⟨M1,h1,h2,h3⟩:=A8.P9 (rs:=Dj e bs Fx++rs) h
  obtain ⟨M2,h4,h5,h6⟩:=A8.GF (by simpa using hl) h1
  refine ⟨M2,h4,h2.trans h5,fun i b r hb hr=> ?_⟩
  cases i with
  |zero=>simp at hb hr;subst hb;subst hr;exact h3.st h5
  |succ i=>exact h6 i b r Fb (by simpa using hr)
 |[],_::_,_,h,_=>by simp at h
 |_::_,[],_,h,_=>by simp at h
theorem St.GF {bs:List Nat} {Fx:List (List Pr)} {s:Nat} (hl:bs.length=Fx.length) (hm:m≤maxLen) (hr:∀r∈Fx,r.length=m) (hs:E.lookup s=some q) (hq:Pr.le q (slice 1 (bs.map fun b=>[is (Jp m b)]))) (h:St n E (Hp M0 w0 S (Dj e bs Fx++rs)) a w):St n ((s,slice 1 (Fx.map fun r=>[slice 1 (r.map fun p=>[p])]))::E) (Hp M0 w0 S rs) a w:=by
 obtain ⟨M,h1,h2,h3,h4⟩:=h
 obtain ⟨M',h5,h6,h7⟩:=A8.GF hl h4
 refine ⟨M',h1,h2,?_,h5⟩
 intro t p hp
 simp only [List.lookup] at hp
 by_cases ht:t=s
 ·
  subst ht
  simp at hp
  subst hp
  obtain ⟨A,cap,h8,h9,h10,h11,h12⟩:=(slice 1 (bs.map fun b=>[is (Jp m b)])).st _ _ _ _ _ h6 (hq _ _ _ (h3 t _ hs))
  refine ⟨A,cap,by rw [h8];simp [hl],by simpa [hl] using h9,h10,h11,fun i row hrow=> ?_⟩
  rw [List.getElem?_map] at hrow
  cases htb:Fx[i]? with
  |none=>rw [htb] at hrow;cases hrow
  |some r=>
   rw [htb] at hrow
   simp at hrow
   subst hrow
   have Fw:i<bs.length:=by grind
   obtain ⟨_,ad,J8,Mi⟩:=h12 i [is (Jp m bs[i])] (by rw [List.getElem?_map,List.getElem?_eq_getElem Fw];rfl)
   refine ⟨rfl,ad,J8,fun j p hp=> ?_⟩
   have hj:j=0:=by grind
   subst hj
   simp at hp
   subst hp
   obtain ⟨u,Wi,h16,OD,RO⟩:=Mi 0 _ rfl
   refine ⟨u,Wi,h16,OD,?_⟩
   have hu:u=Jp m bs[i]:=RO
   have hrl:=hr r (List.mem_of_getElem? htb)
   refine ⟨some ⟨bs[i],0,none⟩,m,by rw [hu];simp [hrl],by simp [hrl],hm,by simp,fun x row hx=> ?_⟩
   rw [List.getElem?_map] at hx
   cases hrx:r[x]? with
   |none=>rw [hrx] at hx;cases hx
   |some p=>
    rw [hrx] at hx
    simp at hx
    subst hx
    refine ⟨rfl,⟨bs[i],0,none⟩,rfl,fun y p' hy=> ?_⟩
    have hy0:y=0:=by grind
    subst hy0
    simp at hy
    subst hy
    have:=h7 i _ r (List.getElem?_eq_getElem Fw) htb x p hrx
    simpa using this
 ·
  rw [show (t==s)=false by simpa using ht] at hp
  exact p.st _ _ _ _ _ h6 (h3 t p hp)
theorem Tr.GF {Q:Exit→Act→World→Prop} {c:Code} {bs:List Nat} {Fx:List (List Pr)} (s:Nat) (hl:bs.length=Fx.length) (hm:m≤maxLen) (hr:∀r∈Fx,r.length=m) (hs:E.lookup s=some q) (hq:Pr.le q (slice 1 (bs.map fun b=>[is (Jp m b)]))) (k:Tr L n ((s,slice 1 (Fx.map fun r=>[slice 1 (r.map fun p=>[p])]))::E) (Hp M0 w0 S rs) c Q):Tr L n E (Hp M0 w0 S (Dj e bs Fx++rs)) c Q:=
 Tr.conv (fun _ _ h=>h.GF hl hm hr hs hq) k
theorem Tr.W8 {Q:Exit→Act→World→Prop} {c:Code} {bs:List Nat} {Fx:List (List Pr)} (s:Nat) (hl:bs.length=Fx.length) (hm:m≤maxLen) (hr:∀r∈Fx,r.length=m) (hs:E.lookup s=some q) (hq:Pr.le q (slice 1 (bs.map fun b=>[is (Jp m b)]))) (k:Tr L n ((s,slice 1 (Fx.map fun r=>[slice 1 (r.map fun p=>[p])]))::E) (Hp M0 w0 S []) c Q):Tr L n E (Hp M0 w0 S (Dj e bs Fx)) c Q:=by grind [Tr.conv,St.GF]
end
end Cp
namespace Go.Proofs.YteomgekmipcdpaaGreatDoor
open Go Cp
theorem mixed:Tryz.prog.follows .mixedOrders=true:=by kernel_rfl
theorem z1:BM Tryz.prog 1=some [.nilFunc]:=by kernel_rfl
theorem z2:BM Tryz.prog 2=some [.int .i64 0]:=by kernel_rfl
theorem BJ:Az Tryz.prog 3=some 1:=by kernel_rfl
theorem BT:D6 Tryz.prog 3=true:=by kernel_rfl
theorem IE:Br Tryz.prog 3=some 8:=by kernel_rfl
theorem zo3:([.int .i64 0]:List Value).all (·.oneCell')=true:=by kernel_rfl
theorem z3:BM Tryz.prog 3=some [.int .i64 0]:=by kernel_rfl
theorem W9:Az Tryz.prog 4=some 1:=by kernel_rfl
theorem gQ:D6 Tryz.prog 4=true:=by kernel_rfl
theorem by4:Br Tryz.prog 4=some 1:=by kernel_rfl
theorem zo4:([.bool false]:List Value).all (·.oneCell')=true:=by kernel_rfl
theorem z4:BM Tryz.prog 4=some [.bool false]:=by kernel_rfl
theorem Nq:Az Tryz.prog 5=some 1:=by kernel_rfl
theorem ADh:D6 Tryz.prog 5=true:=by kernel_rfl
theorem dK:Br Tryz.prog 5=some 1:=by kernel_rfl
theorem zo5:([.int .u8 0]:List Value).all (·.oneCell')=true:=by kernel_rfl
theorem z5:BM Tryz.prog 5=some [.int .u8 0]:=by kernel_rfl
theorem z6:BM Tryz.prog 6=some [.int .u8 0]:=by kernel_rfl
theorem Hs:Az Tryz.prog 9=some 1:=by kernel_rfl
theorem Ge:D6 Tryz.prog 9=true:=by kernel_rfl
theorem by9:Br Tryz.prog 9=some 16:=by kernel_rfl
theorem zo9:([.string (ByteArray.mk #[])]:List Value).all (·.oneCell')=true:=by kernel_rfl
theorem z9:BM Tryz.prog 9=some [.string (ByteArray.mk #[])]:=by kernel_rfl
theorem z12:BM Tryz.prog 12=some [.int .u64 0]:=by kernel_rfl
theorem z13:BM Tryz.prog 13=some [.string (ByteArray.mk #[]),.int .u64 0]:=by kernel_rfl
theorem z18:BM Tryz.prog 18=some [.pointer none]:=by kernel_rfl
theorem z19:BM Tryz.prog 19=some [.pointer none]:=by kernel_rfl
theorem z20:BM Tryz.prog 20=some [.nilIface]:=by kernel_rfl
theorem G0:Az Tryz.prog 22=some 1:=by kernel_rfl
theorem dL:D6 Tryz.prog 22=true:=by kernel_rfl
theorem AIR:Br Tryz.prog 22=some 24:=by kernel_rfl
theorem z22:BM Tryz.prog 22=some [.slice none 0 0]:=by kernel_rfl
theorem z24:BM Tryz.prog 24=some [.nilFunc]:=by kernel_rfl
theorem ADi:Az Tryz.prog 27=some 1:=by kernel_rfl
theorem dM:D6 Tryz.prog 27=true:=by kernel_rfl
theorem AIS:Az Tryz.prog 28=some 1:=by kernel_rfl
theorem yP:D6 Tryz.prog 28=true:=by kernel_rfl
theorem zj:Az Tryz.prog 29=some 1:=by kernel_rfl
theorem ADj:D6 Tryz.prog 29=true:=by kernel_rfl
theorem Fi:Az Tryz.prog 31=some 3:=by kernel_rfl
theorem Gf:Em Tryz.prog 31=true:=by kernel_rfl
theorem ADk:∀ps,Tryz.prog.built 31 ps=Instr.fill (fun i=>(#[(0,1),(1,1),(2,1)]:Array (Nat×Nat))[i]?) ((List.replicate 3 (.slice none 0 0)):List Value).toArray ps:=by intro ps;kernel_rfl
theorem Ic:((List.replicate 3 (.slice none 0 0)):List Value).all (·.oneCell')=true:=by kernel_rfl
theorem z31:BM Tryz.prog 31=some (List.replicate 3 (.slice none 0 0)):=by kernel_rfl
theorem RP:AU Tryz.prog 31 0=some 0:=by kernel_rfl
theorem lZ:AU Tryz.prog 31 1=some 1:=by kernel_rfl
theorem VM:AU Tryz.prog 31 2=some 2:=by kernel_rfl
theorem AIT:Az Tryz.prog 32=some 1:=by kernel_rfl
theorem ADl:D6 Tryz.prog 32=true:=by kernel_rfl
theorem AIU:Az Tryz.prog 33=some 1:=by kernel_rfl
theorem ld:D6 Tryz.prog 33=true:=by kernel_rfl
theorem AIV:([.slice none 0 0]:List Value).all (·.oneCell')=true:=by kernel_rfl
theorem z33:BM Tryz.prog 33=some [.slice none 0 0]:=by kernel_rfl
theorem Cq:Az Tryz.prog 35=some 3:=by kernel_rfl
theorem EG:Em Tryz.prog 35=true:=by kernel_rfl
theorem zk:∀ps,Tryz.prog.built 35 ps=Instr.fill (fun i=>(#[(0,1),(1,1),(2,1)]:Array (Nat×Nat))[i]?) ((List.replicate 3 (.slice none 0 0)):List Value).toArray ps:=by intro ps;kernel_rfl
theorem Jq:((List.replicate 3 (.slice none 0 0)):List Value).all (·.oneCell')=true:=by kernel_rfl
theorem z35:BM Tryz.prog 35=some (List.replicate 3 (.slice none 0 0)):=by kernel_rfl
theorem lf:AU Tryz.prog 35 0=some 0:=by kernel_rfl
theorem zl:AU Tryz.prog 35 1=some 1:=by kernel_rfl
theorem lp:AU Tryz.prog 35 2=some 2:=by kernel_rfl
theorem z37:BM Tryz.prog 37=some [.nilFunc]:=by kernel_rfl
theorem HH:Az Tryz.prog 38=some 1:=by kernel_rfl
theorem yQ:D6 Tryz.prog 38=true:=by kernel_rfl
theorem W_:Br Tryz.prog 38=some 24:=by kernel_rfl
theorem AIW:([.slice none 0 0]:List Value).all (·.oneCell')=true:=by kernel_rfl
theorem z38:BM Tryz.prog 38=some [.slice none 0 0]:=by kernel_rfl
theorem zm:Az Tryz.prog 40=some 1:=by kernel_rfl
theorem ADm:D6 Tryz.prog 40=true:=by kernel_rfl
theorem z40:BM Tryz.prog 40=some [.int .i64 0]:=by kernel_rfl
theorem XA:Az Tryz.prog 48=some 5:=by kernel_rfl
theorem Tu:Em Tryz.prog 48=true:=by kernel_rfl
theorem tV:∀ps,Tryz.prog.built 48 ps=Instr.fill (fun i=>(#[(0,1),(1,1),(2,1),(3,1),(4,1)]:Array (Nat×Nat))[i]?) ((List.replicate 5 (.slice none 0 0)):List Value).toArray ps:=by intro ps;kernel_rfl
theorem TE:((List.replicate 5 (.slice none 0 0)):List Value).all (·.oneCell')=true:=by kernel_rfl
theorem z48:BM Tryz.prog 48=some (List.replicate 5 (.slice none 0 0)):=by kernel_rfl
theorem zn:AU Tryz.prog 48 0=some 0:=by kernel_rfl
theorem zo:AU Tryz.prog 48 1=some 1:=by kernel_rfl
theorem lq:AU Tryz.prog 48 2=some 2:=by kernel_rfl
theorem zq:AU Tryz.prog 48 3=some 3:=by kernel_rfl
theorem zu:AU Tryz.prog 48 4=some 4:=by kernel_rfl
theorem lu:Az Tryz.prog 51=some 1:=by kernel_rfl
theorem ADn:D6 Tryz.prog 51=true:=by kernel_rfl
theorem z51:BM Tryz.prog 51=some [.slice none 0 0]:=by kernel_rfl
theorem j0:BM Tryz.prog 54=some (List.replicate 2 (.int .i64 0)):=by kernel_rfl
theorem Jr:Az Tryz.prog 55=some 2:=by kernel_rfl
theorem Ht:Em Tryz.prog 55=true:=by kernel_rfl
theorem zv:∀ps,Tryz.prog.built 55 ps=Instr.fill (fun i=>(#[(0,1),(1,1)]:Array (Nat×Nat))[i]?) ((List.replicate 2 (.int .i64 0)):List Value).toArray ps:=by intro ps;kernel_rfl
theorem Ec:((List.replicate 2 (.int .i64 0)):List Value).all (·.oneCell')=true:=by kernel_rfl
theorem K2:BM Tryz.prog 55=some (List.replicate 2 (.int .i64 0)):=by kernel_rfl
theorem zw:AU Tryz.prog 55 0=some 0:=by kernel_rfl
theorem zx:AU Tryz.prog 55 1=some 1:=by kernel_rfl
theorem HI:Az Tryz.prog 57=some 11:=by kernel_rfl
theorem J9:Em Tryz.prog 57=true:=by kernel_rfl
theorem zy:Br Tryz.prog 57=some 112:=by kernel_rfl
theorem AIX:∀ps,Tryz.prog.built 57 ps=Instr.fill (fun i=>(#[(0,1),(1,1),(2,1),(3,1),(4,1),(5,1),(6,1),(7,2),(9,1),(10,1)]:Array (Nat×Nat))[i]?) ([.int .i64 0,.string (ByteArray.mk #[]),.int .i64 0,.int .i64 0,.int .i64 0,.int .i64 0,.string (ByteArray.mk #[]),.int .i64 0,.int .i64 0,.int .i64 0,.string (ByteArray.mk #[])]:List Value).toArray ps:=by intro ps;kernel_rfl
theorem ZX:([.int .i64 0,.string (ByteArray.mk #[]),.int .i64 0,.int .i64 0,.int .i64 0,.int .i64 0,.string (ByteArray.mk #[]),.int .i64 0,.int .i64 0,.int .i64 0,.string (ByteArray.mk #[])]:List Value).all (·.oneCell')=true:=by kernel_rfl
theorem z57:BM Tryz.prog 57=some [.int .i64 0,.string (ByteArray.mk #[]),.int .i64 0,.int .i64 0,.int .i64 0,.int .i64 0,.string (ByteArray.mk #[]),.int .i64 0,.int .i64 0,.int .i64 0,.string (ByteArray.mk #[])]:=by kernel_rfl
theorem zz:AU Tryz.prog 57 0=some 0:=by kernel_rfl
theorem lz:AU Tryz.prog 57 1=some 1:=by kernel_rfl
theorem z7:AU Tryz.prog 57 2=some 2:=by kernel_rfl
theorem z8:AU Tryz.prog 57 3=some 3:=by kernel_rfl
theorem z_:AU Tryz.prog 57 4=some 4:=by kernel_rfl
theorem AAA:AU Tryz.prog 57 5=some 5:=by kernel_rfl
theorem AAB:AU Tryz.prog 57 6=some 6:=by kernel_rfl
theorem AAC:AU Tryz.prog 57 7=some 7:=by kernel_rfl
theorem AAD:AU Tryz.prog 57 8=some 9:=by kernel_rfl
theorem AAE:AU Tryz.prog 57 9=some 10:=by kernel_rfl
theorem AIY:∀ps,Tryz.prog.built 60 ps=Instr.fill (fun i=>(#[(0,1),(1,1)]:Array (Nat×Nat))[i]?) ([.slice none 0 0,.int .i64 0]:List Value).toArray ps:=by intro ps;kernel_rfl
theorem AIZ:([.slice none 0 0,.int .i64 0]:List Value).all (·.oneCell')=true:=by kernel_rfl
theorem AAF:AU Tryz.prog 60 0=some 0:=by kernel_rfl
theorem AAG:AU Tryz.prog 60 1=some 1:=by kernel_rfl
theorem AIa:Az Tryz.prog 63=some 1:=by kernel_rfl
theorem ADo:D6 Tryz.prog 63=true:=by kernel_rfl
theorem Cn:Az Tryz.prog 65=some 1:=by kernel_rfl
theorem Dw:Em Tryz.prog 65=true:=by kernel_rfl
theorem tW:∀ps,Tryz.prog.built 65 ps=Instr.fill (fun i=>(#[(0,1)]:Array (Nat×Nat))[i]?) ([.slice none 0 0]:List Value).toArray ps:=by intro ps;kernel_rfl
theorem LR:([.slice none 0 0]:List Value).all (·.oneCell')=true:=by kernel_rfl
theorem j4:BM Tryz.prog 65=some [.slice none 0 0]:=by kernel_rfl
theorem l5:AU Tryz.prog 65 0=some 0:=by kernel_rfl
theorem ADp:D6 Tryz.prog 68=true:=by kernel_rfl
theorem ADq:Az Tryz.prog 70=some 3:=by kernel_rfl
theorem yR:Em Tryz.prog 70=true:=by kernel_rfl
theorem AIb:∀ps,Tryz.prog.built 70 ps=Instr.fill (fun i=>(#[(0,1),(1,1),(2,1)]:Array (Nat×Nat))[i]?) ((List.replicate 3 (.slice none 0 0)):List Value).toArray ps:=by intro ps;kernel_rfl
theorem ADr:((List.replicate 3 (.slice none 0 0)):List Value).all (·.oneCell')=true:=by kernel_rfl
theorem z70:BM Tryz.prog 70=some (List.replicate 3 (.slice none 0 0)):=by kernel_rfl
theorem AAH:AU Tryz.prog 70 0=some 0:=by kernel_rfl
theorem AAI:AU Tryz.prog 70 1=some 1:=by kernel_rfl
theorem AAJ:AU Tryz.prog 70 2=some 2:=by kernel_rfl
theorem ADs:D6 Tryz.prog 72=true:=by kernel_rfl
theorem yS:D6 Tryz.prog 73=true:=by kernel_rfl
theorem AIc:Az Tryz.prog 75=some 2:=by kernel_rfl
theorem ADt:Em Tryz.prog 75=true:=by kernel_rfl
theorem AId:∀ps,Tryz.prog.built 75 ps=Instr.fill (fun i=>(#[(0,1),(1,1)]:Array (Nat×Nat))[i]?) ((List.replicate 2 (.slice none 0 0)):List Value).toArray ps:=by intro ps;kernel_rfl
theorem AIe:((List.replicate 2 (.slice none 0 0)):List Value).all (·.oneCell')=true:=by kernel_rfl
theorem AAK:AU Tryz.prog 75 0=some 0:=by kernel_rfl
theorem l6:AU Tryz.prog 75 1=some 1:=by kernel_rfl
theorem AIf:Az Tryz.prog 77=some 2:=by kernel_rfl
theorem ADu:Em Tryz.prog 77=true:=by kernel_rfl
theorem AIg:∀ps,Tryz.prog.built 77 ps=Instr.fill (fun i=>(#[(0,1),(1,1)]:Array (Nat×Nat))[i]?) ([.slice none 0 0,.int .i64 0]:List Value).toArray ps:=by intro ps;kernel_rfl
theorem AIh:([.slice none 0 0,.int .i64 0]:List Value).all (·.oneCell')=true:=by kernel_rfl
theorem Dy:Az Tryz.prog 85=some 2:=by kernel_rfl
theorem Jd:Em Tryz.prog 85=true:=by kernel_rfl
theorem TG:Br Tryz.prog 85=some 16:=by kernel_rfl
theorem AIi:∀ps,Tryz.prog.built 85 ps=Instr.fill (fun i=>(#[(0,1),(1,1)]:Array (Nat×Nat))[i]?) ((List.replicate 2 (.int .i64 0)):List Value).toArray ps:=by intro ps;kernel_rfl
theorem RQ:((List.replicate 2 (.int .i64 0)):List Value).all (·.oneCell')=true:=by kernel_rfl
theorem z85:BM Tryz.prog 85=some (List.replicate 2 (.int .i64 0)):=by kernel_rfl
theorem AAL:AU Tryz.prog 85 0=some 0:=by kernel_rfl
theorem AAM:AU Tryz.prog 85 1=some 1:=by kernel_rfl
theorem AAN:Az Tryz.prog 91=some 1:=by kernel_rfl
theorem ADv:D6 Tryz.prog 91=true:=by kernel_rfl
theorem AIj:([.slice none 0 0]:List Value).all (·.oneCell')=true:=by kernel_rfl
theorem z91:BM Tryz.prog 91=some [.slice none 0 0]:=by kernel_rfl
theorem l9:Az Tryz.prog 100=some 1:=by kernel_rfl
theorem l_:D6 Tryz.prog 100=true:=by kernel_rfl
theorem Bj:Az Tryz.prog 102=some 9:=by kernel_rfl
theorem CK:Em Tryz.prog 102=true:=by kernel_rfl
theorem mA:Br Tryz.prog 102=some 144:=by kernel_rfl
theorem dN:∀ps,Tryz.prog.built 102 ps=Instr.fill (fun i=>(#[(0,1),(1,1),(2,1),(3,1),(4,1),(5,1),(6,1),(7,1),(8,1)]:Array (Nat×Nat))[i]?) ([.string (ByteArray.mk #[]),.int .i64 0,.int .i64 0,.slice none 0 0,.bool false,.slice none 0 0,.slice none 0 0,.slice none 0 0,.bool false]:List Value).toArray ps:=by intro ps;kernel_rfl
theorem Fj:([.string (ByteArray.mk #[]),.int .i64 0,.int .i64 0,.slice none 0 0,.bool false,.slice none 0 0,.slice none 0 0,.slice none 0 0,.bool false]:List Value).all (·.oneCell')=true:=by kernel_rfl
theorem IF:BM Tryz.prog 102=some [.string (ByteArray.mk #[]),.int .i64 0,.int .i64 0,.slice none 0 0,.bool false,.slice none 0 0,.slice none 0 0,.slice none 0 0,.bool false]:=by kernel_rfl
theorem dO:AU Tryz.prog 102 0=some 0:=by kernel_rfl
theorem tX:AU Tryz.prog 102 1=some 1:=by kernel_rfl
theorem dP:AU Tryz.prog 102 2=some 2:=by kernel_rfl
theorem P_:AU Tryz.prog 102 3=some 3:=by kernel_rfl
theorem tY:AU Tryz.prog 102 4=some 4:=by kernel_rfl
theorem VN:AU Tryz.prog 102 5=some 5:=by kernel_rfl
theorem dQ:AU Tryz.prog 102 6=some 6:=by kernel_rfl
theorem dR:AU Tryz.prog 102 7=some 7:=by kernel_rfl
theorem tZ:AU Tryz.prog 102 8=some 8:=by kernel_rfl
theorem ADw:Az Tryz.prog 103=some 1:=by kernel_rfl
theorem AAO:D6 Tryz.prog 103=true:=by kernel_rfl
theorem ES:Az Tryz.prog 105=some 4:=by kernel_rfl
theorem RR:Em Tryz.prog 105=true:=by kernel_rfl
theorem Tv:Br Tryz.prog 105=some 48:=by kernel_rfl
theorem yT:∀ps,Tryz.prog.built 105 ps=Instr.fill (fun i=>(#[(0,2),(2,1),(3,1)]:Array (Nat×Nat))[i]?) ([.int .i64 0,.int .i64 0,.int .i64 0,.slice none 0 0]:List Value).toArray ps:=by intro ps;kernel_rfl
theorem Ow:([.int .i64 0,.int .i64 0,.int .i64 0,.slice none 0 0]:List Value).all (·.oneCell')=true:=by kernel_rfl
theorem z105:BM Tryz.prog 105=some [.int .i64 0,.int .i64 0,.int .i64 0,.slice none 0 0]:=by kernel_rfl
theorem td:AU Tryz.prog 105 0=some 0:=by kernel_rfl
theorem tg:AU Tryz.prog 105 1=some 2:=by kernel_rfl
theorem th:AU Tryz.prog 105 2=some 3:=by kernel_rfl
theorem FO:Az Tryz.prog 109=some 2:=by kernel_rfl
theorem RS:Em Tryz.prog 109=true:=by kernel_rfl
theorem yU:Br Tryz.prog 109=some 16:=by kernel_rfl
theorem ADx:∀ps,Tryz.prog.built 109 ps=Instr.fill (fun i=>(#[(0,1),(1,1)]:Array (Nat×Nat))[i]?) ((List.replicate 2 (.int .i64 0)):List Value).toArray ps:=by intro ps;kernel_rfl
theorem XB:((List.replicate 2 (.int .i64 0)):List Value).all (·.oneCell')=true:=by kernel_rfl
theorem z109:BM Tryz.prog 109=some (List.replicate 2 (.int .i64 0)):=by kernel_rfl
theorem tj:AU Tryz.prog 109 0=some 0:=by kernel_rfl
theorem tq:AU Tryz.prog 109 1=some 1:=by kernel_rfl
theorem yV:Az Tryz.prog 110=some 1:=by kernel_rfl
theorem AAP:D6 Tryz.prog 110=true:=by kernel_rfl
theorem Hu:Az Tryz.prog 112=some 5:=by kernel_rfl
theorem VO:Em Tryz.prog 112=true:=by kernel_rfl
theorem mB:Br Tryz.prog 112=some 64:=by kernel_rfl
theorem ADy:∀ps,Tryz.prog.built 112 ps=Instr.fill (fun i=>(#[(0,1),(1,1),(2,1),(3,1),(4,1)]:Array (Nat×Nat))[i]?) ([.string (ByteArray.mk #[]),.int .i64 0,.int .i64 0,.slice none 0 0,.int .i64 0]:List Value).toArray ps:=by intro ps;kernel_rfl
theorem XC:([.string (ByteArray.mk #[]),.int .i64 0,.int .i64 0,.slice none 0 0,.int .i64 0]:List Value).all (·.oneCell')=true:=by kernel_rfl
theorem VP:BM Tryz.prog 112=some [.string (ByteArray.mk #[]),.int .i64 0,.int .i64 0,.slice none 0 0,.int .i64 0]:=by kernel_rfl
theorem tu:AU Tryz.prog 112 0=some 0:=by kernel_rfl
theorem tv:AU Tryz.prog 112 1=some 1:=by kernel_rfl
theorem tw:AU Tryz.prog 112 2=some 2:=by kernel_rfl
theorem VQ:AU Tryz.prog 112 3=some 3:=by kernel_rfl
theorem t_:AU Tryz.prog 112 4=some 4:=by kernel_rfl
theorem Cg:Az Tryz.prog 116=some 8:=by kernel_rfl
theorem Gr:Em Tryz.prog 116=true:=by kernel_rfl
theorem Tw:Br Tryz.prog 116=some 80:=by kernel_rfl
theorem Tx:∀ps,Tryz.prog.built 116 ps=Instr.fill (fun i=>(#[(0,1),(1,1),(2,1),(3,1),(4,4)]:Array (Nat×Nat))[i]?) ([.int .i64 0,.int .i64 0,.int .i64 0,.int .i64 0,.int .i64 0,.int .i64 0,.int .i64 0,.slice none 0 0]:List Value).toArray ps:=by intro ps;kernel_rfl
theorem Hv:([.int .i64 0,.int .i64 0,.int .i64 0,.int .i64 0,.int .i64 0,.int .i64 0,.int .i64 0,.slice none 0 0]:List Value).all (·.oneCell')=true:=by kernel_rfl
theorem z116:BM Tryz.prog 116=some [.int .i64 0,.int .i64 0,.int .i64 0,.int .i64 0,.int .i64 0,.int .i64 0,.int .i64 0,.slice none 0 0]:=by kernel_rfl
theorem uA:AU Tryz.prog 116 0=some 0:=by kernel_rfl
theorem uB:AU Tryz.prog 116 1=some 1:=by kernel_rfl
theorem uC:AU Tryz.prog 116 2=some 2:=by kernel_rfl
theorem uD:AU Tryz.prog 116 3=some 3:=by kernel_rfl
theorem uE:AU Tryz.prog 116 4=some 4:=by kernel_rfl
theorem ADz:∀ps,Tryz.prog.built 131 ps=Instr.fill (fun i=>(#[(0,1),(1,1)]:Array (Nat×Nat))[i]?) ((List.replicate 2 (.int .i64 0)):List Value).toArray ps:=by intro ps;kernel_rfl
theorem AD0:((List.replicate 2 (.int .i64 0)):List Value).all (·.oneCell')=true:=by kernel_rfl
theorem uF:AU Tryz.prog 131 0=some 0:=by kernel_rfl
theorem uG:AU Tryz.prog 131 1=some 1:=by kernel_rfl
theorem Ie:Az Tryz.prog 133=some 3:=by kernel_rfl
theorem RT:Em Tryz.prog 133=true:=by kernel_rfl
theorem AD1:∀ps,Tryz.prog.built 133 ps=Instr.fill (fun i=>(#[(0,2),(2,1)]:Array (Nat×Nat))[i]?) ([.int .i64 0,.int .i64 0,.slice none 0 0]:List Value).toArray ps:=by intro ps;kernel_rfl
theorem RU:([.int .i64 0,.int .i64 0,.slice none 0 0]:List Value).all (·.oneCell')=true:=by kernel_rfl
theorem gR:BM Tryz.prog 133=some [.int .i64 0,.int .i64 0,.slice none 0 0]:=by kernel_rfl
theorem uH:AU Tryz.prog 133 0=some 0:=by kernel_rfl
theorem uI:AU Tryz.prog 133 1=some 2:=by kernel_rfl
theorem AD2:Az Tryz.prog 136=some 1:=by kernel_rfl
theorem VR:D6 Tryz.prog 136=true:=by kernel_rfl
theorem AD3:([.pointer none]:List Value).all (·.oneCell')=true:=by kernel_rfl
theorem AIk:BM Tryz.prog 136=some [.pointer none]:=by kernel_rfl
theorem F1:Az Tryz.prog 142=some 1:=by kernel_rfl
theorem JD:D6 Tryz.prog 142=true:=by kernel_rfl
theorem yW:Br Tryz.prog 142=some 4:=by kernel_rfl
theorem AD4:BM Tryz.prog 142=some [.int .u32 0]:=by kernel_rfl
theorem VS:D6 Tryz.prog 143=true:=by kernel_rfl
theorem AD5:∀ps,Tryz.prog.built 145 ps=Instr.fill (fun i=>(#[(0,1),(1,1),(2,1)]:Array (Nat×Nat))[i]?) ([.int .i64 0,.slice none 0 0,.slice none 0 0]:List Value).toArray ps:=by intro ps;kernel_rfl
theorem AD6:([.int .i64 0,.slice none 0 0,.slice none 0 0]:List Value).all (·.oneCell')=true:=by kernel_rfl
theorem uJ:AU Tryz.prog 145 0=some 0:=by kernel_rfl
theorem dS:AU Tryz.prog 145 1=some 1:=by kernel_rfl
theorem dU:AU Tryz.prog 145 2=some 2:=by kernel_rfl
theorem AAQ:D6 Tryz.prog 157=true:=by kernel_rfl
theorem RV:Az Tryz.prog 163=some 4:=by kernel_rfl
theorem mC:Em Tryz.prog 163=true:=by kernel_rfl
theorem AD7:Br Tryz.prog 163=some 80:=by kernel_rfl
theorem AD8:∀ps,Tryz.prog.built 163 ps=Instr.fill (fun i=>(#[(0,1),(1,1),(2,1),(3,1)]:Array (Nat×Nat))[i]?) ([.int .i64 0,.slice none 0 0,.slice none 0 0,.slice none 0 0]:List Value).toArray ps:=by intro ps;kernel_rfl
theorem dV:([.int .i64 0,.slice none 0 0,.slice none 0 0,.slice none 0 0]:List Value).all (·.oneCell')=true:=by kernel_rfl
theorem uK:BM Tryz.prog 163=some [.int .i64 0,.slice none 0 0,.slice none 0 0,.slice none 0 0]:=by kernel_rfl
theorem uL:AU Tryz.prog 163 0=some 0:=by kernel_rfl
theorem uM:AU Tryz.prog 163 1=some 1:=by kernel_rfl
theorem uN:AU Tryz.prog 163 2=some 2:=by kernel_rfl
theorem uO:AU Tryz.prog 163 3=some 3:=by kernel_rfl
theorem AD9:Az Tryz.prog 169=some 2:=by kernel_rfl
theorem AAR:Em Tryz.prog 169=true:=by kernel_rfl
theorem AD_:∀ps,Tryz.prog.built 169 ps=Instr.fill (fun i=>(#[(0,1),(1,1)]:Array (Nat×Nat))[i]?) ((List.replicate 2 (.int .i64 0)):List Value).toArray ps:=by intro ps;kernel_rfl
theorem AEA:((List.replicate 2 (.int .i64 0)):List Value).all (·.oneCell')=true:=by kernel_rfl
theorem uP:AU Tryz.prog 169 0=some 0:=by kernel_rfl
theorem uQ:AU Tryz.prog 169 1=some 1:=by kernel_rfl
theorem F2:Az Tryz.prog 171=some 15:=by kernel_rfl
theorem OE:Em Tryz.prog 171=true:=by kernel_rfl
theorem AEB:Br Tryz.prog 171=some 152:=by kernel_rfl
theorem AEC:∀ps,Tryz.prog.built 171 ps=Instr.fill (fun i=>(#[(0,1),(1,1),(2,1),(3,2),(5,1),(6,2),(8,1),(9,1),(10,1),(11,1),(12,1),(13,2)]:Array (Nat×Nat))[i]?) ([.int .i64 0,.string (ByteArray.mk #[]),.string (ByteArray.mk #[]),.int .i64 0,.int .i64 0,.int .i64 0,.int .i64 0,.int .i64 0,.int .i64 0,.int .i64 0,.bool false,.int .i64 0,.slice none 0 0,.int .i64 0,.int .i64 0]:List Value).toArray ps:=by intro ps;kernel_rfl
theorem RW:([.int .i64 0,.string (ByteArray.mk #[]),.string (ByteArray.mk #[]),.int .i64 0,.int .i64 0,.int .i64 0,.int .i64 0,.int .i64 0,.int .i64 0,.int .i64 0,.bool false,.int .i64 0,.slice none 0 0,.int .i64 0,.int .i64 0]:List Value).all (·.oneCell')=true:=by kernel_rfl
theorem z171:BM Tryz.prog 171=some [.int .i64 0,.string (ByteArray.mk #[]),.string (ByteArray.mk #[]),.int .i64 0,.int .i64 0,.int .i64 0,.int .i64 0,.int .i64 0,.int .i64 0,.int .i64 0,.bool false,.int .i64 0,.slice none 0 0,.int .i64 0,.int .i64 0]:=by kernel_rfl
theorem uR:AU Tryz.prog 171 0=some 0:=by kernel_rfl
theorem uS:AU Tryz.prog 171 1=some 1:=by kernel_rfl
theorem uT:AU Tryz.prog 171 2=some 2:=by kernel_rfl
theorem uU:AU Tryz.prog 171 3=some 3:=by kernel_rfl
theorem uV:AU Tryz.prog 171 4=some 5:=by kernel_rfl
theorem uW:AU Tryz.prog 171 5=some 6:=by kernel_rfl
theorem uX:AU Tryz.prog 171 6=some 8:=by kernel_rfl
theorem uY:AU Tryz.prog 171 7=some 9:=by kernel_rfl
theorem uZ:AU Tryz.prog 171 8=some 10:=by kernel_rfl
theorem uc:AU Tryz.prog 171 9=some 11:=by kernel_rfl
theorem mD:AU Tryz.prog 171 10=some 12:=by kernel_rfl
theorem mE:AU Tryz.prog 171 11=some 13:=by kernel_rfl
theorem J_:Az Tryz.prog 176=some 3:=by kernel_rfl
theorem yX:Br Tryz.prog 176=some 24:=by kernel_rfl
theorem AED:∀ps,Tryz.prog.built 176 ps=Instr.fill (fun i=>(#[(0,2),(2,1)]:Array (Nat×Nat))[i]?) ((List.replicate 3 (.int .i64 0)):List Value).toArray ps:=by intro ps;kernel_rfl
theorem yY:((List.replicate 3 (.int .i64 0)):List Value).all (·.oneCell')=true:=by kernel_rfl
theorem AAS:BM Tryz.prog 176=some (List.replicate 3 (.int .i64 0)):=by kernel_rfl
theorem ud:AU Tryz.prog 176 0=some 0:=by kernel_rfl
theorem ue:AU Tryz.prog 176 1=some 2:=by kernel_rfl
theorem Ox:Az Tryz.prog 191=some 1:=by kernel_rfl
theorem AAT:D6 Tryz.prog 191=true:=by kernel_rfl
theorem AEE:Br Tryz.prog 191=some 24:=by kernel_rfl
theorem AEF:BM Tryz.prog 191=some [.slice none 0 0]:=by kernel_rfl
theorem AEG:Az Tryz.prog 213=some 1:=by kernel_rfl
theorem AAU:D6 Tryz.prog 213=true:=by kernel_rfl
theorem Gg:Az Tryz.prog 233=some 12:=by kernel_rfl
theorem JE:Em Tryz.prog 233=true:=by kernel_rfl
theorem dW:∀ps,Tryz.prog.built 233 ps=Instr.fill (fun i=>(#[(0,1),(1,1),(2,2),(4,2),(6,2),(8,2),(10,1),(11,1)]:Array (Nat×Nat))[i]?) ([.int .i64 0,.string (ByteArray.mk #[]),.int .i64 0,.int .i64 0,.int .i64 0,.int .i64 0,.int .i64 0,.int .i64 0,.int .i64 0,.int .i64 0,.int .i64 0,.int .i64 0]:List Value).toArray ps:=by intro ps;kernel_rfl
theorem Je:([.int .i64 0,.string (ByteArray.mk #[]),.int .i64 0,.int .i64 0,.int .i64 0,.int .i64 0,.int .i64 0,.int .i64 0,.int .i64 0,.int .i64 0,.int .i64 0,.int .i64 0]:List Value).all (·.oneCell')=true:=by kernel_rfl
theorem z233:BM Tryz.prog 233=some [.int .i64 0,.string (ByteArray.mk #[]),.int .i64 0,.int .i64 0,.int .i64 0,.int .i64 0,.int .i64 0,.int .i64 0,.int .i64 0,.int .i64 0,.int .i64 0,.int .i64 0]:=by kernel_rfl
theorem uf:AU Tryz.prog 233 2=some 2:=by kernel_rfl
theorem ug:AU Tryz.prog 233 3=some 4:=by kernel_rfl
theorem uh:AU Tryz.prog 233 4=some 6:=by kernel_rfl
theorem uj:AU Tryz.prog 233 5=some 8:=by kernel_rfl
theorem uk:AU Tryz.prog 233 6=some 10:=by kernel_rfl
theorem um:AU Tryz.prog 233 7=some 11:=by kernel_rfl
theorem CG:Az Tryz.prog 248=some 2:=by kernel_rfl
theorem Cz:Em Tryz.prog 248=true:=by kernel_rfl
theorem dX:Br Tryz.prog 248=some 16:=by kernel_rfl
theorem Ty:∀ps,Tryz.prog.built 248 ps=Instr.fill (fun i=>(#[(0,1),(1,1)]:Array (Nat×Nat))[i]?) ((List.replicate 2 (.int .i64 0)):List Value).toArray ps:=by intro ps;kernel_rfl
theorem Fl:((List.replicate 2 (.int .i64 0)):List Value).all (·.oneCell')=true:=by kernel_rfl
theorem Js:BM Tryz.prog 248=some (List.replicate 2 (.int .i64 0)):=by kernel_rfl
theorem uo:AU Tryz.prog 248 1=some 1:=by kernel_rfl
theorem F3:Az Tryz.prog 250=some 4:=by kernel_rfl
theorem KA:Em Tryz.prog 250=true:=by kernel_rfl
theorem AEH:Br Tryz.prog 250=some 48:=by kernel_rfl
theorem dY:∀ps,Tryz.prog.built 250 ps=Instr.fill (fun i=>(#[(0,1),(1,1),(2,2)]:Array (Nat×Nat))[i]?) ([.int .i64 0,.slice none 0 0,.int .i64 0,.int .i64 0]:List Value).toArray ps:=by intro ps;kernel_rfl
theorem RY:([.int .i64 0,.slice none 0 0,.int .i64 0,.int .i64 0]:List Value).all (·.oneCell')=true:=by kernel_rfl
theorem uq:BM Tryz.prog 250=some [.int .i64 0,.slice none 0 0,.int .i64 0,.int .i64 0]:=by kernel_rfl
theorem dZ:Az Tryz.prog 257=some 1:=by kernel_rfl
theorem AAV:D6 Tryz.prog 257=true:=by kernel_rfl
theorem AEI:Br Tryz.prog 257=some 24:=by kernel_rfl
theorem AEJ:([.slice none 0 0]:List Value).all (·.oneCell')=true:=by kernel_rfl
theorem AEK:BM Tryz.prog 257=some [.slice none 0 0]:=by kernel_rfl
theorem Tz:Az Tryz.prog 282=some 5:=by kernel_rfl
theorem VT:Em Tryz.prog 282=true:=by kernel_rfl
theorem Ef:∀ps,Tryz.prog.built 282 ps=Instr.fill (fun i=>(#[(0,1),(1,1),(2,1),(3,1),(4,1)]:Array (Nat×Nat))[i]?) ([.string (ByteArray.mk #[]),.int .i64 0,.int .i64 0,.slice none 0 0,.slice none 0 0]:List Value).toArray ps:=by intro ps;kernel_rfl
theorem D9:([.string (ByteArray.mk #[]),.int .i64 0,.int .i64 0,.slice none 0 0,.slice none 0 0]:List Value).all (·.oneCell')=true:=by kernel_rfl
theorem AAW:BM Tryz.prog 282=some [.string (ByteArray.mk #[]),.int .i64 0,.int .i64 0,.slice none 0 0,.slice none 0 0]:=by kernel_rfl
theorem ur:AU Tryz.prog 282 1=some 1:=by kernel_rfl
theorem uu:AU Tryz.prog 282 2=some 2:=by kernel_rfl
theorem uv:AU Tryz.prog 282 3=some 3:=by kernel_rfl
theorem uw:AU Tryz.prog 282 4=some 4:=by kernel_rfl
theorem AEL:∀ps,Tryz.prog.built 288 ps=Instr.fill (fun i=>some (i*1,1)) ((List.replicate 400 (.int .i64 0)):List Value).toArray ps:=by intro ps;kernel_rfl
theorem AEM:((List.replicate 400 (.int .i64 0)):List Value).all (·.oneCell')=true:=by kernel_rfl
theorem AEN:Az Tryz.prog 302=some 1:=by kernel_rfl
theorem mF:D6 Tryz.prog 302=true:=by kernel_rfl
theorem Ck:Az Tryz.prog 304=some 4:=by kernel_rfl
theorem DQ:Em Tryz.prog 304=true:=by kernel_rfl
theorem yZ:Br Tryz.prog 304=some 64:=by kernel_rfl
theorem mG:∀ps,Tryz.prog.built 304 ps=Instr.fill (fun i=>(#[(0,1),(1,1),(2,1),(3,1)]:Array (Nat×Nat))[i]?) ([.int .i64 0,.slice none 0 0,.bool false,.slice none 0 0]:List Value).toArray ps:=by intro ps;kernel_rfl
theorem Lj:([.int .i64 0,.slice none 0 0,.bool false,.slice none 0 0]:List Value).all (·.oneCell')=true:=by kernel_rfl
theorem OG:BM Tryz.prog 304=some [.int .i64 0,.slice none 0 0,.bool false,.slice none 0 0]:=by kernel_rfl
theorem ux:AU Tryz.prog 304 0=some 0:=by kernel_rfl
theorem uy:AU Tryz.prog 304 1=some 1:=by kernel_rfl
theorem uz:AU Tryz.prog 304 2=some 2:=by kernel_rfl
theorem dc:AU Tryz.prog 304 3=some 3:=by kernel_rfl
theorem ya:Az Tryz.prog 309=some 2:=by kernel_rfl
theorem AEO:∀ps,Tryz.prog.built 309 ps=Instr.fill (fun i=>(#[(0,1),(1,1)]:Array (Nat×Nat))[i]?) ([.string (ByteArray.mk #[]),.int .i64 0]:List Value).toArray ps:=by intro ps;kernel_rfl
theorem yc:([.string (ByteArray.mk #[]),.int .i64 0]:List Value).all (·.oneCell')=true:=by kernel_rfl
theorem AIl:BM Tryz.prog 309=some [.string (ByteArray.mk #[]),.int .i64 0]:=by kernel_rfl
theorem u5:AU Tryz.prog 309 1=some 1:=by kernel_rfl
theorem AEP:Az Tryz.prog 329=some 1:=by kernel_rfl
theorem AAX:D6 Tryz.prog 329=true:=by kernel_rfl
theorem AEQ:([.int .u64 0]:List Value).all (·.oneCell')=true:=by kernel_rfl
theorem AIm:BM Tryz.prog 329=some [.int .u64 0]:=by kernel_rfl
theorem yd:Az Tryz.prog 337=some 115:=by kernel_rfl
theorem AAY:Em Tryz.prog 337=true:=by kernel_rfl
theorem AER:∀ps,Tryz.prog.built 337 ps=Instr.fill (fun i=>some (i*5,5)) ([.string (ByteArray.mk #[]),.int .i64 0,.int .i64 0,.slice none 0 0,.slice none 0 0,.string (ByteArray.mk #[]),.int .i64 0,.int .i64 0,.slice none 0 0,.slice none 0 0,.string (ByteArray.mk #[]),.int .i64 0,.int .i64 0,.slice none 0 0,.slice none 0 0,.string (ByteArray.mk #[]),.int .i64 0,.int .i64 0,.slice none 0 0,.slice none 0 0,.string (ByteArray.mk #[]),.int .i64 0,.int .i64 0,.slice none 0 0,.slice none 0 0,.string (ByteArray.mk #[]),.int .i64 0,.int .i64 0,.slice none 0 0,.slice none 0 0,.string (ByteArray.mk #[]),.int .i64 0,.int .i64 0,.slice none 0 0,.slice none 0 0,.string (ByteArray.mk #[]),.int .i64 0,.int .i64 0,.slice none 0 0,.slice none 0 0,.string (ByteArray.mk #[]),.int .i64 0,.int .i64 0,.slice none 0 0,.slice none 0 0,.string (ByteArray.mk #[]),.int .i64 0,.int .i64 0,.slice none 0 0,.slice none 0 0,.string (ByteArray.mk #[]),.int .i64 0,.int .i64 0,.slice none 0 0,.slice none 0 0,.string (ByteArray.mk #[]),.int .i64 0,.int .i64 0,.slice none 0 0,.slice none 0 0,.string (ByteArray.mk #[]),.int .i64 0,.int .i64 0,.slice none 0 0,.slice none 0 0,.string (ByteArray.mk #[]),.int .i64 0,.int .i64 0,.slice none 0 0,.slice none 0 0,.string (ByteArray.mk #[]),.int .i64 0,.int .i64 0,.slice none 0 0,.slice none 0 0,.string (ByteArray.mk #[]),.int .i64 0,.int .i64 0,.slice none 0 0,.slice none 0 0,.string (ByteArray.mk #[]),.int .i64 0,.int .i64 0,.slice none 0 0,.slice none 0 0,.string (ByteArray.mk #[]),.int .i64 0,.int .i64 0,.slice none 0 0,.slice none 0 0,.string (ByteArray.mk #[]),.int .i64 0,.int .i64 0,.slice none 0 0,.slice none 0 0,.string (ByteArray.mk #[]),.int .i64 0,.int .i64 0,.slice none 0 0,.slice none 0 0,.string (ByteArray.mk #[]),.int .i64 0,.int .i64 0,.slice none 0 0,.slice none 0 0,.string (ByteArray.mk #[]),.int .i64 0,.int .i64 0,.slice none 0 0,.slice none 0 0,.string (ByteArray.mk #[]),.int .i64 0,.int .i64 0,.slice none 0 0,.slice none 0 0]:List Value).toArray ps:=by intro ps;kernel_rfl
theorem yf:([.string (ByteArray.mk #[]),.int .i64 0,.int .i64 0,.slice none 0 0,.slice none 0 0,.string (ByteArray.mk #[]),.int .i64 0,.int .i64 0,.slice none 0 0,.slice none 0 0,.string (ByteArray.mk #[]),.int .i64 0,.int .i64 0,.slice none 0 0,.slice none 0 0,.string (ByteArray.mk #[]),.int .i64 0,.int .i64 0,.slice none 0 0,.slice none 0 0,.string (ByteArray.mk #[]),.int .i64 0,.int .i64 0,.slice none 0 0,.slice none 0 0,.string (ByteArray.mk #[]),.int .i64 0,.int .i64 0,.slice none 0 0,.slice none 0 0,.string (ByteArray.mk #[]),.int .i64 0,.int .i64 0,.slice none 0 0,.slice none 0 0,.string (ByteArray.mk #[]),.int .i64 0,.int .i64 0,.slice none 0 0,.slice none 0 0,.string (ByteArray.mk #[]),.int .i64 0,.int .i64 0,.slice none 0 0,.slice none 0 0,.string (ByteArray.mk #[]),.int .i64 0,.int .i64 0,.slice none 0 0,.slice none 0 0,.string (ByteArray.mk #[]),.int .i64 0,.int .i64 0,.slice none 0 0,.slice none 0 0,.string (ByteArray.mk #[]),.int .i64 0,.int .i64 0,.slice none 0 0,.slice none 0 0,.string (ByteArray.mk #[]),.int .i64 0,.int .i64 0,.slice none 0 0,.slice none 0 0,.string (ByteArray.mk #[]),.int .i64 0,.int .i64 0,.slice none 0 0,.slice none 0 0,.string (ByteArray.mk #[]),.int .i64 0,.int .i64 0,.slice none 0 0,.slice none 0 0,.string (ByteArray.mk #[]),.int .i64 0,.int .i64 0,.slice none 0 0,.slice none 0 0,.string (ByteArray.mk #[]),.int .i64 0,.int .i64 0,.slice none 0 0,.slice none 0 0,.string (ByteArray.mk #[]),.int .i64 0,.int .i64 0,.slice none 0 0,.slice none 0 0,.string (ByteArray.mk #[]),.int .i64 0,.int .i64 0,.slice none 0 0,.slice none 0 0,.string (ByteArray.mk #[]),.int .i64 0,.int .i64 0,.slice none 0 0,.slice none 0 0,.string (ByteArray.mk #[]),.int .i64 0,.int .i64 0,.slice none 0 0,.slice none 0 0,.string (ByteArray.mk #[]),.int .i64 0,.int .i64 0,.slice none 0 0,.slice none 0 0,.string (ByteArray.mk #[]),.int .i64 0,.int .i64 0,.slice none 0 0,.slice none 0 0]:List Value).all (·.oneCell')=true:=by kernel_rfl
theorem AIn:BM Tryz.prog 337=some [.string (ByteArray.mk #[]),.int .i64 0,.int .i64 0,.slice none 0 0,.slice none 0 0,.string (ByteArray.mk #[]),.int .i64 0,.int .i64 0,.slice none 0 0,.slice none 0 0,.string (ByteArray.mk #[]),.int .i64 0,.int .i64 0,.slice none 0 0,.slice none 0 0,.string (ByteArray.mk #[]),.int .i64 0,.int .i64 0,.slice none 0 0,.slice none 0 0,.string (ByteArray.mk #[]),.int .i64 0,.int .i64 0,.slice none 0 0,.slice none 0 0,.string (ByteArray.mk #[]),.int .i64 0,.int .i64 0,.slice none 0 0,.slice none 0 0,.string (ByteArray.mk #[]),.int .i64 0,.int .i64 0,.slice none 0 0,.slice none 0 0,.string (ByteArray.mk #[]),.int .i64 0,.int .i64 0,.slice none 0 0,.slice none 0 0,.string (ByteArray.mk #[]),.int .i64 0,.int .i64 0,.slice none 0 0,.slice none 0 0,.string (ByteArray.mk #[]),.int .i64 0,.int .i64 0,.slice none 0 0,.slice none 0 0,.string (ByteArray.mk #[]),.int .i64 0,.int .i64 0,.slice none 0 0,.slice none 0 0,.string (ByteArray.mk #[]),.int .i64 0,.int .i64 0,.slice none 0 0,.slice none 0 0,.string (ByteArray.mk #[]),.int .i64 0,.int .i64 0,.slice none 0 0,.slice none 0 0,.string (ByteArray.mk #[]),.int .i64 0,.int .i64 0,.slice none 0 0,.slice none 0 0,.string (ByteArray.mk #[]),.int .i64 0,.int .i64 0,.slice none 0 0,.slice none 0 0,.string (ByteArray.mk #[]),.int .i64 0,.int .i64 0,.slice none 0 0,.slice none 0 0,.string (ByteArray.mk #[]),.int .i64 0,.int .i64 0,.slice none 0 0,.slice none 0 0,.string (ByteArray.mk #[]),.int .i64 0,.int .i64 0,.slice none 0 0,.slice none 0 0,.string (ByteArray.mk #[]),.int .i64 0,.int .i64 0,.slice none 0 0,.slice none 0 0,.string (ByteArray.mk #[]),.int .i64 0,.int .i64 0,.slice none 0 0,.slice none 0 0,.string (ByteArray.mk #[]),.int .i64 0,.int .i64 0,.slice none 0 0,.slice none 0 0,.string (ByteArray.mk #[]),.int .i64 0,.int .i64 0,.slice none 0 0,.slice none 0 0,.string (ByteArray.mk #[]),.int .i64 0,.int .i64 0,.slice none 0 0,.slice none 0 0]:=by kernel_rfl
theorem yg:Az Tryz.prog 373=some 2:=by kernel_rfl
theorem AAZ:Em Tryz.prog 373=true:=by kernel_rfl
theorem AES:∀ps,Tryz.prog.built 373 ps=Instr.fill (fun i=>some (i*1,1)) ((List.replicate 2 (.int .i64 0)):List Value).toArray ps:=by intro ps;kernel_rfl
theorem yh:((List.replicate 2 (.int .i64 0)):List Value).all (·.oneCell')=true:=by kernel_rfl
theorem AIo:BM Tryz.prog 373=some (List.replicate 2 (.int .i64 0)):=by kernel_rfl
theorem AET:∀ps,Tryz.prog.built 374 ps=Instr.fill (fun i=>some (i*2,2)) ((List.replicate 10 (.int .i64 0)):List Value).toArray ps:=by intro ps;kernel_rfl
theorem AEU:((List.replicate 10 (.int .i64 0)):List Value).all (·.oneCell')=true:=by kernel_rfl
end Go.Proofs.YteomgekmipcdpaaGreatDoor
namespace Cp
open Go Go.RowKit Go.Great
variable {a:Act} {ops:Array Oper} {ts:Array TypeId} {M:Av} {new:Bool} {f:FuncId} {rows rows':List (List Pr)} {ps qs:List Pr} {rs:List Ay} {zs:List Value} {b cap d i j k m:Nat} {x:Operand} {p q:Pr} {P:Program} {T e t:TypeId} {v:Value} {w w0:World}
section
variable {P:Program} {L:Lg P} {n:Fm} {fz:Nat} {E:Env} {M0:Av} {w0:World} {S:Nat→Prop} {rs:List Ay} {o:Oper}
def lens (m:Nat):Pr where
 h _ _ v:=∃a c,v= .slice a m c
 st _M _w _M' _w' _v _ h:=h
instance AEV (m:Nat):One (lens m):=⟨by rintro M w v ⟨a,c,rfl⟩;exact ⟨rfl,rfl⟩⟩
def HJ (e:TypeId) (sz:Nat) (rows:List (List Pr)) (v:Value):Ay where
 blk:=match v with| .slice (some a) _ _=>some a.block|_=>none
 new:=true
 h M w:=∃(b cap:Nat) (spare:List Value),v= .slice (some ⟨b,0,none⟩) rows.length cap∧rows.length≤cap∧cap≤maxLen∧spare.length=(cap-rows.length)*sz∧(AE true b e (rows.flatten++spare.map is)).h M w
 st M w M' w' he hk h:=by
  obtain ⟨b,cap,spare,rfl,h1,h2,h3,h4⟩:=h
  exact ⟨b,cap,spare,rfl,h1,h2,h3,(AE true b e _).st _ _ _ _ he hk h4⟩
theorem JF {sz:Nat}:∀{rows:List (List Pr)} {i j:Nat} {row:List Pr},(∀r∈rows,r.length=sz)→rows[i]? =some row→j<sz→rows.flatten[i*sz+j]? =row[j]?
 |[],_,_,_,_,h,_=>by simp at h
 |a::l,0,j,row,hl,h,hj=>by
  simp at h;subst h
  have:=hl a AR
  rw [List.flatten_cons,Nat.zero_mul,Nat.zero_add,List.getElem?_append_left AA]
 |a::l,i+1,j,row,hl,h,hj=>by
  have h1:=hl a AR
  rw [List.flatten_cons,Nat.succ_mul,List.getElem?_append_right AA,h1,show i*sz+sz+j-sz=i*sz+j by omega]
  exact JF (fun r hr=>hl r (List.mem_cons_of_mem _ hr)) D5 hj
theorem Cv {sz:Nat}:∀{rows:List (List Pr)},(∀r∈rows,r.length=sz)→rows.flatten.length=rows.length*sz
 |[],_=>by simp
 |a::l,h=>by
  rw [List.flatten_cons,List.length_append,Cv (fun r hr=>h r (List.mem_cons_of_mem _ hr)),h a AR,List.length_cons,Nat.succ_mul];omega
theorem T0 {M:Av} {w:World}:∀{ps:List Pr} {vs:List Value},vs.length=ps.length→(∀(k:Nat) p,ps[k]? =some p→∃u,vs[k]? =some u∧p.h M w u)→HL M w ps vs
 |[],[],_,_=>trivial
 |[],_::_,h,_=>by simp at h
 |_::_,[],h,_=>by simp at h
 |p::ps,v::vs,h,hk=>by
  refine ⟨?_,T0 D5 fun k q hq=>by simpa using hk (k+1) q (by simpa using hq)⟩
  obtain ⟨u,hu,hp⟩:=hk 0 p rfl
  simp at hu;subst hu;exact hp
theorem Flat.hl {sz:Nat} {news:List Value} (hsz:0<sz) (h:Flat M w sz rows news):HL M w rows.flatten news:=by
 have hl:∀r∈rows,r.length=sz:=fun r hr=>by obtain ⟨i,hi⟩:=List.mem_iff_getElem?.1 hr;exact (h.2.2 i r hi).1
 refine T0 (by rw [h.1,Cv hl]) fun k p hk=> ?_
 have S8:k<rows.length*sz:=by rw [←Cv hl];rcases Nat.lt_or_ge k rows.flatten.length with h|h;exact h;rw [List.getElem?_eq_none h] at hk;cases hk
 have hi:k/sz<rows.length:=Nat.div_lt_of_lt_mul (by rw [Nat.mul_comm];exact S8)
 have hj:k % sz<sz:=Nat.mod_lt _ hsz
 have he:k/sz*sz+k % sz=k:=by rw [Nat.mul_comm];exact Nat.div_add_mod k sz
 have hr:=List.getElem?_eq_getElem hi
 rw [←he,JF hl hr hj] at hk
 obtain ⟨u,hu,hp⟩:=(h.2.2 _ _ hr).2 _ p hk
 exact ⟨u,by rw [←he];exact hu,hp⟩
theorem HL.flat {sz:Nat} {cs:List Value} (hl:∀r∈rows,r.length=sz) (h:HL M w (rows.flatten++qs) cs) (h1:∀c∈cs,c.oneCell'=true):Flat M w sz rows (cs.take (rows.length*sz)):=by
 have hfl:=Cv hl
 have hlen:=h.length
 refine ⟨by rw [List.length_take,hlen,List.length_append,hfl];omega,fun u hu=>h1 u (List.mem_of_mem_take hu),fun i row hi=> ?_⟩
 have hrl:=hl row (List.mem_of_getElem? hi)
 refine ⟨hrl,fun j p hp=> ?_⟩
 have hjl:j<sz:=by grind
 have Fw:i<rows.length:=by grind
 have hlt:i*sz+j<rows.length*sz:=by have:(i+1)*sz≤rows.length*sz:=Nat.mul_le_mul_right sz Fw;rw [Nat.add_mul] at this;omega
 obtain ⟨u,hu,hh⟩:=h.at_ (i*sz+j) p (by rw [List.getElem?_append_left (by rw [hfl];exact hlt),JF hl hi hjl];exact hp)
 exact ⟨u,by rw [List.getElem?_take,if_pos hlt];exact hu,hh⟩
theorem EZ {z:Array Value} (hz:z.toList=zs) (h1:zs.all (·.oneCell')=true):∀c∈(Builtin.zeroCells z k).toList,c.oneCell'=true:=by
 intro c hc
 simp only [Builtin.zeroCells,Array.toList_map,Array.toList_range,List.mem_map,List.mem_range] at hc
 obtain ⟨i,hi,rfl⟩:=hc
 have hpos:0<z.size:=by grind
 have hm:i % z.size<z.size:=Nat.mod_lt _ hpos
 rw [getElem!_pos z _ hm]
 exact List.all_eq_true.1 h1 _ (by rw [←hz];simp)
theorem u6 {ty:TypeId} {sz bytes:Nat} {u:Value} (ht:P.underlying t=some (.slice e)) (hz:Az P e=some sz) (hby:Br P e=some bytes) (D8:BM P e=some zs) (hzl:zs.length=sz) (hone:zs.all (·.oneCell')=true) (hsz:0<sz) (h:A8 M0 w0 S rs M w) (hj:rs[j]? =some Bo) (hu:(slice sz rows).h M w u) (hpos:0<rows.length) (Gc:rows.length≤maxLen) (hfit:rows.length*bytes≤140737488355328):
  ∃v' w' M',(Builtin.append_ #[t,t] ty #[.slice none 0 0,u]).run P w= .ok v' w'∧(lens rows.length).h M' w' v'∧Ext M w M' w'∧A8 M0 w0 S (rs.set j (HJ e sz rows v')) M' w':=by
 unfold Az at hz
 unfold Br at hby
 unfold BM at D8
 cases hi:P.info? e with
 |none=>rw [hi] at hz;cases hz
 |some i=>
  rw [hi] at hz hby D8
  simp only [Option.map_some,Option.some.injEq,Option.map_eq_some_iff] at hz hby D8
  obtain ⟨z,Wg,D8⟩:=D8
  have dF:z.cells.size=sz:=by rw [←hzl,←D8];simp
  obtain ⟨A',c',rfl,hmc,ZQ,hA',HD⟩:=hu
  have Ti:(slice sz rows).h M w (.slice A' rows.length c'):=⟨A',c',rfl,hmc,ZQ,hA',HD⟩
  obtain ⟨Tq,rfl⟩:∃Tq,A'=some Tq:=by
   obtain ⟨_,b,hb,_⟩:=HD 0 _ (List.getElem?_eq_getElem hpos)
   exact ⟨b,hb⟩
  obtain ⟨news,hfl,hcell⟩:=GC hsz Ti
  have hrun:=run_append_nil (P:=P) w t ty e i z ht hi Wg Tq rows.length c' news (by rw [hz];exact hfl.1) (fun k u hk=>(hcell k u hk).1) hpos Pt (by rw [hby];omega)
  generalize hcap:grownCap w rows.length 0 e=cap at hrun
  have hge:rows.length≤cap:=by rw [←hcap];exact grownCap_ge _ _ _ _
  have hle:cap≤maxLen:=by rw [←hcap];exact grownCap_le_maxLen _ _ _ _ Gc
  generalize TD:Builtin.zeroCells z.cells (cap-rows.length)=zc at hrun
  have hzs:zc.size=(cap-rows.length)*sz:=by rw [←TD,size_zeroCells,dF]
  have hzo:∀c∈zc.toList,c.oneCell'=true:=by rw [←TD];exact EZ D8 hone
  have hb:Below w.heap.size w (w.drew.alloc (.cells (news.toArray++zc) e)):=((Below.refl _ _).drew).alloc (Nat.le_refl _) _
  have h2:=Ext.below (M:=M) hb
  have Eo:Ext M w (fun b o=>M b o∨b=w.heap.size) (w.drew.alloc (.cells (news.toArray++zc) e)):=by
   refine ⟨h2.size,fun a v hc hm=>⟨fun hx=> ?_,(h2.keep a v hc hm).2⟩,fun b o ho hp hm=>⟨fun hx=> ?_,(h2.obj b o ho hp hm).2⟩⟩
   ·
    rcases hx with hx|hx
    · exact hm hx
    · exact Ew
   · grind
  have hs1:(w.drew.alloc (.cells (news.toArray++zc) e)).heap.size=w.heap.size+1:=by simp
  refine ⟨_,_,fun b o=>M b o∨b=w.heap.size,hrun,⟨_,_,rfl⟩,Eo,?_⟩
  refine h.replace hj Eo hb.os hb.tape hb.output (fun k hk _=>hb.block k hk) rfl (fun b o hm _=> .inl hm) (fun b o hx=> ?_) ?_ rfl (fun b hbk=> ?_)
  ·
   rcases hx with hx|hx
   · exact Kw
   · omega
  ·
   refine ⟨w.heap.size,cap,zc.toList,rfl,hge,hle,by simpa using hzs,fun o=> .inr rfl,news++zc.toList,?_,?_,?_⟩
   ·
    have hh:(w.drew.alloc (.cells (news.toArray++zc) e)).heap[w.heap.size]? =some (.cells (news.toArray++zc) e (0,0)):=heap_alloc_new w.drew _
    rw [hh];simp
   · exact ((hfl.st Eo).hl hsz).app (J3 _ _ _)
   ·
    intro c hc
    rcases List.mem_append.1 hc with hc|hc
    · exact hfl.2.1 c hc
    · exact hzo c hc
  ·
   have En:some w.heap.size=some b:=hbk
   injection En with e1
   subst e1
   exact ⟨by rw [hs1];omega,.inr (Nat.le_refl _)⟩
theorem St.Oy {sz:Nat} (j:Nat) (hj:rs[j]? =some (HJ e sz rows v)) (h:St n E (Hp M0 w0 S rs) a w):
  ∃(b cap:Nat) (spare:List Value),v= .slice (some ⟨b,0,none⟩) rows.length cap∧rows.length≤cap∧cap≤maxLen∧spare.length=(cap-rows.length)*sz∧St n E (Hp M0 w0 S (rs.set j (AE true b e (rows.flatten++spare.map is)))) a w:=by
 obtain ⟨M,h1,h2,h3,h4⟩:=h
 have h4:A8 M0 w0 S rs M w:=h4
 obtain ⟨b,cap,spare,rfl,h5,h6,h7,h8⟩:=(h4.hold _ (List.mem_of_getElem? hj)).1
 exact ⟨b,cap,spare,rfl,h5,h6,h7,M,h1,h2,h3,h4.Cw hj rfl rfl h8⟩
theorem Tr.Oy {Q:Exit→Act→World→Prop} {c:Code} {sz:Nat} (j:Nat) (hj:rs[j]? =some (HJ e sz rows v)) (k:∀(b cap:Nat) (spare:List Value),v= .slice (some ⟨b,0,none⟩) rows.length cap→rows.length≤cap→cap≤maxLen→spare.length=(cap-rows.length)*sz→Tr L n E (Hp M0 w0 S (rs.set j (AE true b e (rows.flatten++spare.map is)))) c Q):Tr L n E (Hp M0 w0 S rs) c Q:=
 fun a w hs=>let ⟨b,cap,spare,h1,h2,h3,h4,h5⟩:=hs.Oy j hj;k b cap spare h1 h2 h3 h4 a w h5
theorem Fin.Oy {Q:Exit→Act→World→Prop} {ex:Exit} {sz:Nat} (j:Nat) (hj:rs[j]? =some (HJ e sz rows v)) (k:∀(b cap:Nat) (spare:List Value),v= .slice (some ⟨b,0,none⟩) rows.length cap→rows.length≤cap→cap≤maxLen→spare.length=(cap-rows.length)*sz→Fin n E (Hp M0 w0 S (rs.set j (AE true b e (rows.flatten++spare.map is)))) Q ex):Fin n E (Hp M0 w0 S rs) Q ex:=
 fun a w hs=>let ⟨b,cap,spare,h1,h2,h3,h4,h5⟩:=hs.Oy j hj;k b cap spare h1 h2 h3 h4 a w h5
theorem A8.frz {sz:Nat} (h:A8 M0 w0 S rs M w) (hj:rs[j]? =some (AE true b e (rows.flatten++qs))) (hl:∀r∈rows,r.length=sz) (hc:rows.length≤cap) (hm:cap≤maxLen) (hq:qs.length=(cap-rows.length)*sz):
  ∃M',Ext M w M' w∧A8 M0 w0 S (rs.set j (Ax e sz (.slice (some ⟨b,0,none⟩) rows.length cap))) M' w∧(slice sz rows).h M' w (.slice (some ⟨b,0,none⟩) rows.length cap):=by
 obtain ⟨⟨hM,cs,hh,hcs,hone⟩,hbb⟩:=h.hold _ (List.mem_of_getElem? hj)
 have VU:=(hbb b rfl).1
 have hfl:=HL.flat hl hcs hone
 have hlen:=hcs.length
 rw [List.length_append,Cv hl,hq,←Nat.add_mul,show rows.length+(cap-rows.length)=cap by omega] at hlen
 have he:Ext M w (fun b' o=>M b' o∧¬(b'=b∧o<rows.length*sz)) w:=Ext.less fun _ _ h=>h.1
 refine ⟨_,he,?_,E4 (hfl.st he) hc hm fun k u hk=> ?_⟩
 ·
  refine h.replace hj he rfl rfl rfl (fun _ _ _=>rfl) rfl (fun b' o hm' hne=>⟨hm',fun hx=>hne (by rw [hx.1];rfl)⟩) (fun b' o hx=>h.bd _ _ hx.1) ?_ rfl (fun b' hbk=> ?_)
  ·
   intro a' n' c' hv hlt
   injection hv with e1 e2 e3
   injection e1 with e1
   subst e1;subst e2;subst e3
   refine ⟨⟨cs.take (rows.length*sz),hfl.1,.inr ⟨b,cap,cs.toArray,rfl,Nat.zero_le _,hh,hc,hm,by simpa using hlen,by simp⟩⟩,fun o ho=>⟨hM o,fun hx=>by omega⟩⟩
  ·
   have En:Db (.slice (some ⟨b,0,none⟩) rows.length cap)=some b':=hbk
   simp only [Db] at En
   split at En
   · simp at En;subst En;exact ⟨VU,.inl rfl⟩
   · cases En
 ·
  have S8:k<rows.length*sz:=by rw [←hfl.1];rcases Nat.lt_or_ge k (cs.take (rows.length*sz)).length with h|h;exact h;rw [List.getElem?_eq_none h] at hk;cases hk
  rw [List.getElem?_take,if_pos S8] at hk
  exact ⟨by simp [World.cell?,hh,hk],fun hx=>hx.2 ⟨rfl,S8⟩⟩
theorem St.u7 {b0 sz:Nat} {ps':List Pr} (j i k:Nat) (hj:rs[j]? =some (AE true b e (rows.flatten++qs))) (hi:rs[i]? =some (AE new b0 T ps)) (hij:j≠i) (hk:ps[k]? =some p) (hp:Pr.le p (is (.slice (some ⟨b,0,none⟩) rows.length cap))) (hl:∀r∈rows,r.length=sz) (hc:rows.length≤cap) (hm:cap≤maxLen) (hq:qs.length=(cap-rows.length)*sz) (hps:ps.set k (Ag (.slice (some ⟨b,0,none⟩) rows.length cap) (slice sz rows))=ps') (h:St n E (Hp M0 w0 S rs) a w):St n E (Hp M0 w0 S ((rs.set j (Ax e sz (.slice (some ⟨b,0,none⟩) rows.length cap))).set i (AE new b0 T ps'))) a w:=by
 obtain ⟨M,h1,h2,h3,h4⟩:=h
 obtain ⟨M',h5,h6,h7⟩:=A8.frz h4 hj hl hc hm hq
 have hi':(rs.set j (Ax e sz (.slice (some ⟨b,0,none⟩) rows.length cap)))[i]? =some (AE new b0 T ps):=by grind
 obtain ⟨h8,cs,h9,h10,h11⟩:=(h6.hold _ (List.mem_of_getElem? hi')).1
 refine ⟨M',h1,h2,fun s q hs=>q.st _ _ _ _ _ h5 (h3 s q hs),h6.Cw hi' rfl rfl ⟨h8,cs,h9,?_,h11⟩⟩
 subst hps
 refine T0 (by rw [h10.length];simp) fun k' p' hk'=> ?_
 rw [List.getElem?_set] at hk'
 split at hk'
 ·
  rename_i e1
  subst e1
  split at hk'
  ·
   obtain ⟨u,hu,hpu⟩:=h10.at_ k p hk
   simp at hk';subst hk'
   have:=hp _ _ _ hpu
   refine ⟨u,hu,this,?_⟩
   have hu2:u= .slice (some ⟨b,0,none⟩) rows.length cap:=this
   rw [hu2];exact h7
  · cases hk'
 · exact h10.at_ k' p' hk'
theorem Tr.u7 {Q:Exit→Act→World→Prop} {c:Code} {b0 sz:Nat} (rows:List (List Pr)) {ps':List Pr} (j i k:Nat) (hj:rs[j]? =some (AE true b e (rows.flatten++qs))) (hi:rs[i]? =some (AE new b0 T ps)) (hij:j≠i) (hk:ps[k]? =some p) (hp:Pr.le p (is (.slice (some ⟨b,0,none⟩) rows.length cap))) (hl:∀r∈rows,r.length=sz) (hc:rows.length≤cap) (hm:cap≤maxLen) (hq:qs.length=(cap-rows.length)*sz) (hps:ps.set k (Ag (.slice (some ⟨b,0,none⟩) rows.length cap) (slice sz rows))=ps') (k':Tr L n E (Hp M0 w0 S ((rs.set j (Ax e sz (.slice (some ⟨b,0,none⟩) rows.length cap))).set i (AE new b0 T ps'))) c Q):Tr L n E (Hp M0 w0 S rs) c Q:=
 Tr.conv (fun _ _ hs=>hs.u7 j i k hj hi hij hk hp hl hc hm hq hps) k'
end
abbrev str (l:List UInt8):Pr:=is (.string ⟨l.toArray⟩)
theorem GG (l:List UInt8):(ByteArray.mk l.toArray).toList=l:=by rw [ByteArray.toList_eq]
theorem RZ (l:List UInt8):(ByteArray.mk l.toArray).size=l.length:=rfl
section
variable {P:Program} {L:Lg P} {E:Env} {I:Cc} {o:Oper}
theorem mH {u:TypeId} {y:Operand} {a b:List UInt8} (ho:o.op= .binOp .eql t x y u) (hx:VL E x (str a)) (hy:VL E y (str b)):Ab P I o E (bool (decide (a=b))):=
 Ab.same fun M w ac he _=>by
  have h1:ac.eval x=_:=hx.ev he Ap
  have h2:ac.eval y=_:=hy.ev he Ap
  refine ⟨_,by simp [execOp,ho,h1,h2,eqGuard,binOp,Op.stringOp,GG];rfl,?_⟩
  show Value.bool _=Value.bool _
  congr 1
  rw [Bool.eq_iff_iff];simp
theorem AAa {u:TypeId} {y:Operand} {a b:List UInt8} (ho:o.op= .binOp .neq t x y u) (hx:VL E x (str a)) (hy:VL E y (str b)):Ab P I o E (bool (!decide (a=b))):=
 Ab.same fun M w ac he _=>by
  have h1:ac.eval x=_:=hx.ev he Ap
  have h2:ac.eval y=_:=hy.ev he Ap
  refine ⟨_,by simp [execOp,ho,h1,h2,eqGuard,binOp,Op.stringOp,GG];rfl,?_⟩
  show Value.bool _=Value.bool _
  congr 1
  rw [Bool.eq_iff_iff];simp
theorem Ra:∀(a b:List UInt8),Op.bytesLess a b=decide (Lib.compareBytes a b= -1)
 |_,[]=>by cases ‹List UInt8›<;>simp [Op.bytesLess,Lib.compareBytes]
 |[],_::_=>by simp [Op.bytesLess,Lib.compareBytes]
 |a::x,b::y=>by
  rw [Op.bytesLess,Ra x y,Lib.compareBytes]
  by_cases h1:a<b
  · simp [h1]
  ·
   by_cases h2:b<a
   ·
    have h3:a≠b:=fun e=>by subst e;exact h1 h2
    simp [h1,h2,h3]
   ·
    have h3:a=b:=UInt8.le_antisymm (UInt8.not_lt.1 h2) (UInt8.not_lt.1 h1)
    simp [h1,h2,h3]
theorem AAb {u:TypeId} {y:Operand} {a b:List UInt8} (ho:o.op= .binOp .lss t x y u) (hx:VL E x (str a)) (hy:VL E y (str b)):Ab P I o E (bool (decide (Lib.compareBytes a b= -1))):=
 Ab.same fun M w ac he _=>by
  have h1:ac.eval x=_:=hx.ev he Ap
  have h2:ac.eval y=_:=hy.ev he Ap
  exact ⟨_,by simp [execOp,ho,h1,h2,eqGuard,binOp,Op.stringOp,GG,Ra],rfl⟩
theorem Rb {u:TypeId} {y:Operand} {a b:List UInt8} (ho:o.op= .binOp .geq t x y u) (hx:VL E x (str a)) (hy:VL E y (str b)):Ab P I o E (bool (!decide (Lib.compareBytes a b= -1))):=
 Ab.same fun M w ac he _=>by
  have h1:ac.eval x=_:=hx.ev he Ap
  have h2:ac.eval y=_:=hy.ev he Ap
  exact ⟨_,by simp [execOp,ho,h1,h2,eqGuard,binOp,Op.stringOp,GG,Ra],rfl⟩
theorem u9 {a:List UInt8} (ho:o.op= .call { callee:= .builtin .len,args:= #[x],argTypes:= #[t] }) (ht:P.underlying t=some .string) (hx:VL E x (str a)):Ab P I o E (int ((a.length:Nat):Int)):=
 Ab.same fun M w ac he _=>by
  have h1:ac.eval x=_:=hx.ev he Da
  exact ⟨.int .i64 a.length,by simp [execOp,ho,resolve,invoke,builtin,Builtin.len_,h1,run_underlying ht,goInt,RZ],rfl⟩
theorem QA {y:Operand} {k:IntKind} {a:List UInt8} {i:Int} {c:UInt8} (ho:o.op= .index t x y) (ht:P.underlying t=some .string) (hx:VL E x (str a)) (hy:VL E y (is (.int k i))) (h0:0≤i) (hc:a[i.toNat]? =some c):Ab P I o E (is (.int .u8 c.toNat)):=
 Ab.same fun M w ac he _=>by
  have h1:ac.eval x=_:=hx.ev he Ap
  have h2:ac.eval y=_:=hy.ev he Ap
  refine ⟨_,?_,rfl⟩
  have hlt:i.toNat<a.length:=by rcases Nat.lt_or_ge i.toNat a.length with h|h;exact h;rw [List.getElem?_eq_none h] at hc;cases hc
  have h3:(ByteArray.mk a.toArray)[i.toNat]? =some c:=by
   rw [getElem?_pos (ByteArray.mk a.toArray) i.toNat (by rw [RZ];exact hlt)]
   rw [List.getElem?_eq_getElem hlt] at hc
   simp only [Option.some.injEq] at hc
   rw [←hc]
   rfl
  simp [execOp,ho,h1,h2,Instr.index,asIntOf,run_underlying ht,h0,h3]
theorem XD {s:TypeId} {a:List UInt8} (ho:o.op= .convert s t x) (hs:P.underlying s=some .string) (ht:P.underlying t=some (.slice e)) (he:P.underlying e=some (.int .u8)) (hx:VL E x (str a)) (hm:a.length≤maxLen):Ab P I o E (slice 1 (a.map fun c=>[is (.int .u8 c.toNat)])):=
 Ab.val fun M w ac hev hI=>by
  have h1:ac.eval x=_:=hx.ev hev Ap
  have hrun:=Lib.run_convert_string_bytes (P:=P) w s t e ⟨a.toArray⟩ hs ht he
  have hcap:=grownCap_ge w a.length 0 e
  have hcm:=grownCap_le_maxLen w a.length 0 e hm
  refine ⟨.slice (some ⟨w.heap.size,0,none⟩) a.length (grownCap w a.length 0 e),Lib.bytesWorld w e ⟨a.toArray⟩,by simp [execOp,ho,h1,hrun];exact ⟨rfl,rfl⟩,?_,?_⟩
  ·
   have hbd:Bd M w:=I.bd _ _ hI
   refine ⟨_,grownCap w a.length 0 e,by rw [List.length_map],by rw [List.length_map];exact hcap,hcm,(fun h=>by cases h),fun i row hr=> ?_⟩
   rw [List.getElem?_map] at hr
   cases hc:a[i]? with
   |none=>rw [hc] at hr;cases hr
   |some c=>
    rw [hc] at hr
    simp only [Option.map_some,Option.some.injEq] at hr
    subst hr
    have Fw:i<a.length:=by rcases Nat.lt_or_ge i a.length with h|h;exact h;rw [List.getElem?_eq_none h] at hc;cases hc
    refine ⟨rfl,_,rfl,fun j p hp=> ?_⟩
    have hj:j=0:=by
     rcases Nat.eq_zero_or_pos j with h|h
     · exact h
     · rw [List.getElem?_eq_none Bz] at hp;cases hp
    subst hj
    simp only [List.getElem?_cons_zero,Option.some.injEq] at hp
    subst hp
    refine ⟨.int .u8 c.toNat,?_,fun hmm=> ?_,rfl,rfl⟩
    ·
     rw [show Addr.add ⟨w.heap.size,0,none⟩ (i*1+0)=⟨w.heap.size,i,none⟩ by unfold Addr.add;split<;>simp_all]
     rw [Lib.bytesWorld_cell w e ⟨a.toArray⟩ i (by rw [RZ];exact Fw)]
     have:([]++a).getD i 0=c:=by simp [hc]
     simp [hc]
    · have:=hbd _ _ hmm;simp at this
  · exact Lib.bytesWorld_below w e ⟨a.toArray⟩
theorem VV {a:List UInt8} {c:UInt8} (h:a[k]? =some c):a[((k:Nat):Int).toNat]? =some c:=h
theorem XE {y:Operand} {k:IntKind} {i:Int} {len sz:Nat} (ho:o.op= .index t x y) (ht:P.underlying t=some (.array len e)) (he:Em P e=true) (hz:Az P e=some sz) (hx:VL E x (agg ps)) (hy:VL E y (is (.int k i))) (h0:0≤i) (hl:i<len) (hq:(ps.drop (i.toNat*sz)).take sz=qs):Ab P I o E (agg qs):=
 Ab.same fun M w ac hev _=>by
  obtain ⟨cs,h1,ho1,h2⟩:=hx.ev hev Ap
  have h3:ac.eval y=_:=hy.ev hev Ap
  refine ⟨.agg (cs.toArray.extract (i.toNat*sz) (i.toNat*sz+sz)),?_,(cs.drop (i.toNat*sz)).take sz,?_,fun c hc=>ho1 c (List.mem_of_mem_drop (List.mem_of_mem_take hc)),by rw [←hq];exact (h2.drop _).take _⟩
  · simp [execOp,ho,h1,h3,Instr.index,asIntOf,run_underlying ht,h0,hl,CL hz,part,E3 he]
  ·
   congr 1
   apply Array.toList_inj.1
   simp [List.extract,Nat.add_sub_cancel_left]
theorem VW {xs:List Value} (h:(agg (xs.map is)).h M w v):v= .agg xs.toArray:=by
 obtain ⟨cs,rfl,ho,h2⟩:=h
 congr 1
 have:cs=xs:=by
  clear ho
  induction xs generalizing cs with
  |nil=>cases cs with
   |nil=>rfl
   |cons c cs=>exact h2.elim
  |cons x xs ih=>cases cs with
   |nil=>exact h2.elim
   |cons c cs=>rw [ih cs h2.2,show c=x from h2.1]
 rw [this]
theorem Rc {u:TypeId} {y:Operand} {r:Bool} (xs ys:List Value) (ho:o.op= .binOp .eql t x y u) (hx:VL E x (agg (xs.map is))) (hy:VL E y (agg (ys.map is))) (hg:P.eqGuardType P.depth t=false) (hr:∀w,(Op.equal t (.agg xs.toArray) (.agg ys.toArray)).run P w= .ok r w):Ab P I o E (bool r):=
 Ab.same fun M w ac he _=>by
  have h1:=VW (hx.ev he Ap)
  have h2:=VW (hy.ev he Ap)
  exact ⟨_,by simp [execOp,ho,h1,h2,eqGuard,hg,binOp,hr w],rfl⟩
theorem NA {u:TypeId} {y:Operand} {r:Bool} (xs ys:List Value) (ho:o.op= .binOp .neq t x y u) (hx:VL E x (agg (xs.map is))) (hy:VL E y (agg (ys.map is))) (hg:P.eqGuardType P.depth t=false) (hr:∀w,(Op.equal t (.agg xs.toArray) (.agg ys.toArray)).run P w= .ok r w):Ab P I o E (bool (!r)):=
 Ab.same fun M w ac he _=>by
  have h1:=VW (hx.ev he Ap)
  have h2:=VW (hy.ev he Ap)
  exact ⟨_,by simp [execOp,ho,h1,h2,eqGuard,hg,binOp,hr w],rfl⟩
theorem eqS {P:Program} {fs:Array Field} {xs ys:Array Value} {r:Bool} (ht:P.underlying t=some (.struct fs)) (hp:P.stoodInHeld t=false) (h:(Op.eqFields d xs ys fs.toList).run P w= .ok r w):(Op.equalIn (d+1) t (.agg xs) (.agg ys)).run P w= .ok r w:=by
 have hf:P.fieldsOf t=fs:=by unfold Program.fieldsOf;rw [ht]
 rw [run_equalIn_struct w d t xs ys (by rw [hf];exact ht) hp,hf];exact h
theorem K3 {P:Program} {xs ys:Array Value}:(Op.eqFields d xs ys []).run P w= .ok true w:=by simp [Op.eqFields]
theorem CZ {P : Program} {xs ys : Array Value} {f : Field} {fs : List Field} {vx vy : Value} {r q : Bool} (hn : f.name ≠ "_") (ha : (part f.type xs f.offset).run P w = .ok vx w) (hb : (part f.type ys f.offset).run P w = .ok vy w) (he : (Op.equalIn d f.type vx vy).run P w = .ok r w) (hr : (Op.eqFields d xs ys fs).run P w = .ok q w) : (Op.eqFields d xs ys (f :: fs)).run P w = .ok (r && q) w := by
 simp only [Op.eqFields,hn,ne_eq,not_false_eq_true,if_true,Sem.run_bind,ha,hb,he,Result.andThen_ok]
 cases r
 · simp
 · simpa using hr
theorem BG {P:Program} {cs:Array Value} {off:Nat} (h1:D6 P t=true) (hv:cs[off]? =some v):(part t cs off).run P w= .ok v w:=by
 simp [part,EX h1,hv]
theorem XF {P:Program} {cs:Array Value} {off:Nat} {vs:Array Value} (h1:Em P t=true) (hz:Az P t=some m) (hv:cs.extract off (off+m)=vs):(part t cs off).run P w= .ok (.agg vs) w:=by
 simp [part,E3 h1,CL hz,hv]
theorem Dl {P:Program} {k:IntKind} {a b:Int} (h:P.underlying t=some (.int k)):(Op.equalIn (d+1) t (.int k a) (.int k b)).run P w= .ok (decide (a=b)) w:=by
 rw [run_equalIn_int w d t k k a b h];rfl
theorem VX {P:Program} {a b:List UInt8} (h:P.underlying t=some .string):(Op.equalIn (d+1) t (.string ⟨a.toArray⟩) (.string ⟨b.toArray⟩)).run P w= .ok (decide (a=b)) w:=by
 rw [run_equalIn_string w d t _ _ h,GG,GG]
 congr 1
 rw [Bool.eq_iff_iff];simp
end
section
variable {P:Program} {L:Lg P} {E:Env} {I:Cc} {o:Oper}
theorem Rd {sz:Nat} {A:Option Addr} {lo hi:Nat} (h:(slice sz rows).h M w (.slice A rows.length cap)) (h1:lo≤hi) (h2:hi≤rows.length):
  (slice sz ((rows.take hi).drop lo)).h M w (.slice (if cap=lo then A else A.map (·.add (lo*sz))) (hi-lo) (cap-lo)):=by
 obtain ⟨A',cap',hv,hc,hm,hA,hr⟩:=h
 injection hv with e1 _ e3
 subst e1;subst e3
 have hlen:((rows.take hi).drop lo).length=hi-lo:=by rw [List.length_drop,List.length_take];omega
 refine ⟨_,cap-lo,by rw [hlen],by rw [hlen];omega,by omega,fun h=> ?_,fun i row hi'=> ?_⟩
 ·
  split at h
  · have:=hA h;omega
  ·
   cases hA2:A with
   |none=>have:=hA hA2;omega
   |some a=>rw [hA2] at h;cases h
 ·
  rw [List.getElem?_drop,List.getElem?_take] at hi'
  split at hi'
  ·
   rename_i hlt
   obtain ⟨h3,ad,h4,h5⟩:=hr _ row hi'
   subst h4
   rw [if_neg AA]
   refine ⟨h3,_,rfl,fun j p hp=> ?_⟩
   obtain ⟨u,h6,h7,h8,h9⟩:=h5 j p hp
   refine ⟨u,?_,?_,h8,h9⟩
   · rw [add_add,show lo*sz+(i*sz+j)=(lo+i)*sz+j by rw [Nat.add_mul];omega];exact h6
   · rw [IQ,Mw,show ad.off+lo*sz+(i*sz+j)=ad.off+((lo+i)*sz+j) by rw [Nat.add_mul];omega];exact h7
  · cases hi'
theorem Dr {y:Operand} {k:IntKind} {h:Int} {sz:Nat} (ho:o.op= .slice t x none (some y) none) (ht:P.underlying t=some (.slice e)) (hz:Az P e=some sz) (hx:VL E x (slice sz rows)) (hy:VL E y (is (.int k h))) (h0:0≤h) (hl:h≤rows.length):
  Ab P I o E (slice sz (rows.take h.toNat)):=
 Ab.same fun M w a he _=>by
  have h1:=hx.ev he Ap
  have h3:a.eval y=_:=hy.ev he Ap
  obtain ⟨A,cap,hv,hc,hm,hA,hr⟩:=h1
  have h2:=Rd (lo:=0) (hi:=h.toNat) (show (slice sz rows).h M w (.slice A rows.length cap) from ⟨A,cap,rfl,hc,hm,hA,hr⟩) AA AA
  refine ⟨_,?_,by simpa using h2⟩
  have hb:h≤(cap:Int):=by omega
  simp [execOp,ho,hv,h3,Instr.sliceAt,Instr.slice,run_underlying ht,Instr.sliceBounds,Instr.sliceBound,asIntOf,h0,hb,CL hz]
theorem Cs {y:Operand} {k:IntKind} {l:Int} {sz:Nat} (ho:o.op= .slice t x (some y) none none) (ht:P.underlying t=some (.slice e)) (hz:Az P e=some sz) (hx:VL E x (slice sz rows)) (hy:VL E y (is (.int k l))) (h0:0≤l) (hl:l≤rows.length):
  Ab P I o E (slice sz (rows.drop l.toNat)):=
 Ab.same fun M w a he _=>by
  have h1:=hx.ev he Ap
  have h3:a.eval y=_:=hy.ev he Ap
  obtain ⟨A,cap,hv,hc,hm,hA,hr⟩:=h1
  have h2:=Rd (lo:=l.toNat) (hi:=rows.length) (show (slice sz rows).h M w (.slice A rows.length cap) from ⟨A,cap,rfl,hc,hm,hA,hr⟩) AA (Nat.le_refl _)
  rw [List.take_length] at h2
  refine ⟨_,?_,h2⟩
  simp [execOp,ho,hv,h3,Instr.sliceAt,Instr.slice,run_underlying ht,Instr.sliceBounds,Instr.sliceBound,asIntOf,h0,hl,CL hz]
end
abbrev Ey:Pr:=is (.tuple #[])
section
variable {P:Program} {L:Lg P} {n:Fm} {fz:Nat} {E:Env} {M0:Av} {w0:World} {S:Nat→Prop} {rs:List Ay} {o:Oper} {g:Func} {M1:Av} {w1:World}
theorem results0 {g:Func} (hr:g.results= #[]):(results g a.tmps).run P w= .ok (.tuple #[]) w:=by
 rw [HG,hr];simp [Sem.run_bind]
theorem Fin.u_ (hr:g.results= #[]):Fin ⟨fz,[]⟩ E (Hp M0 w0 FG rs) (bodyPost P g (Q9 M0 w0 Ey)) .normal:=by
 rintro a w ⟨M,_,hd,he,hi⟩
 obtain ⟨h1,h2⟩:=Bt.Dx M0 w0 M w hi
 exact ⟨hd,_,results0 hr,_,rfl,rfl,h2⟩
theorem Fin.yj (hr:g.results= #[]):Fin ⟨fz,[]⟩ E (Hp M0 w0 FG rs) (bodyPost P g (Q9 M0 w0 Ey)) .ret:=by
 rintro a w ⟨M,_,hd,he,hi⟩
 obtain ⟨h1,h2⟩:=Bt.Dx M0 w0 M w hi
 exact ⟨hd,_,results0 hr,_,rfl,rfl,h2⟩
theorem Fin.NB {r:Ay} (hr:g.results= #[]):Fin ⟨fz,[]⟩ E (Hp M0 w0 S (r::Ac M1 w1::rs)) (bodyPost P g (Lf M0 w0 S rs M1 w1 Ey (fun _=>r))) .normal:=by
 rintro a w ⟨M,_,hd,he,hi⟩
 obtain ⟨h1,h2⟩:=ZT hi
 exact ⟨hd,_,results0 hr,_,M,rfl,rfl,h1,h2⟩
def dh (E:Env) (v0:Value) (q0:Pr):List Operand→List Pr→Prop
 |[],[]=>True
 |x::xs,p::ps=>(VL E x p∨(VL E x (is v0)∧Pr.le (Ag v0 q0) p))∧dh E v0 q0 xs ps
 |_,_=>False
theorem dh.ev {M M':Av} {w:World} {a:Act} {v0:Value} {q0:Pr} (he:Cb M w E o a) (hx:Ext M w M' w) (h0:q0.h M' w v0):∀{xs:List Operand} {ps:List Pr},(∀x∈xs,x∈o.op.operands.toList)→dh E v0 q0 xs ps→HL M' w ps (xs.map a.eval)
 |[],[],_,_=>trivial
 |[],_::_,_,h=>h.elim
 |_::_,[],_,h=>h.elim
 |x::xs,p::ps,hm,h=>by
  refine ⟨?_,dh.ev he hx h0 (fun y hy=>hm y (List.mem_cons_of_mem _ hy)) h.2⟩
  rcases h.1 with h1|⟨h1,h2⟩
  · exact p.st _ _ _ _ _ hx (h1.ev he (hm x AR))
  ·
   have h3:a.eval x=v0:=h1.ev he (hm x AR)
   exact h2 _ _ _ ⟨h3,by rw [h3];exact h0⟩
class NC (p:Pr):Prop where
 free:∀M M' w v,p.h M w v→p.h M' w v
instance AG0 (u:Value):NC (is u):=⟨fun _ _ _ _ h=>h⟩
instance ACI (m:Nat):NC (lens m):=⟨fun _ _ _ _ h=>h⟩
end
def Ll (es:List (Value×Value)):Array MapEntry:=(es.zipIdx.map fun p=>({ key:=p.1.1,val:=p.1.2,born:=p.2 }:MapEntry)).toArray
theorem KB (es:List (Value×Value)) (i:Nat):(Ll es)[i]? =(es[i]?).map fun p=>{ key:=p.1,val:=p.2,born:=i }:=by
 simp [Ll,List.getElem?_zipIdx]
 cases es[i]? <;>simp
theorem mI (es:List (Value×Value)) (k v:Value):(Ll es).push { key:=k,val:=v,born:=es.length }=Ll (es++[(k,v)]):=by
 apply Array.toList_inj.1
 simp [Ll,List.zipIdx_append]
theorem vA {es:List (Value×Value)} (h:i<es.length) (k v:Value):((Ll es).modify i fun e=>{ e with key:=k,val:=v })=Ll (es.set i (k,v)):=by
 apply Array.ext_getElem?
 intro j
 rw [Array.getElem?_modify,KB,KB,List.getElem?_set]
 by_cases hj:i=j
 ·
  subst hj
  simp [h]
 · simp [hj]
structure ZY (P:Program) (T kt et:TypeId) {κ:Type} [DecidableEq κ] (enc:κ→Value):Prop where
 und:P.underlying T=some (.map kt et)
 zero:∀w,(zeroValue et).run P w= .ok (.int .i64 0) w
 eq:∀a b w,(Op.equal kt (enc a) (enc b)).run P w= .ok (decide (a=b)) w
 chk:∀e a w,(Instr.checkKey e 10000 kt (enc a)).run P w= .ok () w
 AAc:∃d,P.underlying kt=some d∧((∀a b,Instr.sameNow d (enc a) (enc b)=none)∨∀a b,Instr.sameNow d (enc a) (enc b)=some (decide (a=b)))
 bits:∀a,Instr.sameBits 10000 (enc a) (enc a)=true
section
variable {P:Program} {L:Lg P} {n:Fm} {fz:Nat} {E:Env} {M0:Av} {w0:World} {S:Nat→Prop} {rs:List Ay} {o:Oper} {κ:Type} [DecidableEq κ] {enc:κ→Value}
abbrev Gs (enc:κ→Value) (es:List (κ×Int)):List (Value×Value):=es.map fun p=>(enc p.1,.int .i64 p.2)
def L6 (enc:κ→Value) (b:Nat) (es:List (κ×Int)):Ay where
 blk:=some b
 new:=true
 h M w:=(∀o,M b o)∧w.heap[b]? =some (.map (Ll (Gs enc es)) es.length)
 st M w M' w' he hk h:=by
  obtain ⟨h1,h2⟩:=hk b rfl
  exact ⟨fun o=>h2 o (h.1 o),h1.trans h.2⟩
def look (es:List (κ×Int)) (k:κ):Option Int:=(es.find? fun p=>decide (k=p.1)).map (·.2)
def OH (es:List (κ×Int)) (k:κ) (v:Int):List (κ×Int):=match es.findIdx? fun p=>decide (k=p.1) with|some i=>es.set i (k,v)|none=>es++[(k,v)]
theorem Oz {T kt et:TypeId} (hT:ZY P T kt et enc) (k:κ) (w:World):∀(es:List (κ×Int)) (i c:Nat),
  (Instr.findAsking kt (enc k) ((es.zipIdx c).map fun p=>({ key:=enc p.1.1,val:= .int .i64 p.1.2,born:=p.2 }:MapEntry)) i).run P w= .ok ((es.findIdx? fun p=>decide (k=p.1)).bind fun j=>(es[j]?).map fun p=>(i+j,.int .i64 p.2)) w
 |[],i,c=>by simp [Instr.findAsking]
 |p::es,i,c=>by
  rw [List.zipIdx_cons,List.map_cons,Instr.findAsking,Sem.run_bind,hT.eq,Result.andThen_ok]
  by_cases h:k=p.1
  · simp [h,List.findIdx?_cons]
  ·
   rw [if_neg D5,Oz hT k w es (i+1) (c+1),List.findIdx?_cons]
   simp only [h,decide_false,Bool.false_eq_true,if_false]
   congr 1
   cases hf:es.findIdx? fun p=>decide (k=p.1) with
   |none=>simp
   |some j=>simp [Nat.add_assoc,Nat.add_comm 1 j]
theorem XG {d:TypeDesc} (hn:∀a b:κ,Instr.sameNow d (enc a) (enc b)=some (decide (a=b))) (k:κ):∀(es:List (κ×Int)) (i c:Nat),
  Instr.findNow d (enc k) ((es.zipIdx c).map fun p=>({ key:=enc p.1.1,val:= .int .i64 p.1.2,born:=p.2 }:MapEntry)) i=some ((es.findIdx? fun p=>decide (k=p.1)).bind fun j=>(es[j]?).map fun p=>(i+j,.int .i64 p.2))
 |[],i,c=>by simp [Instr.findNow]
 |p::es,i,c=>by
  rw [List.zipIdx_cons,List.map_cons,Instr.findNow,hn]
  by_cases h:k=p.1
  · simp [h,List.findIdx?_cons]
  ·
   simp only [h,decide_false]
   rw [XG hn k es (i+1) (c+1),List.findIdx?_cons]
   simp only [h,decide_false,Bool.false_eq_true,if_false]
   congr 1
   cases hf:es.findIdx? fun p=>decide (k=p.1) with
   |none=>simp
   |some j=>simp [Nat.add_assoc,Nat.add_comm 1 j]
theorem Re {kt et:TypeId} (hT:ZY P T kt et enc) (k:κ) (w:World) (es:List (κ×Int)):
  (Instr.findKey kt (enc k) (Ll (Gs enc es)).toList).run P w= .ok ((es.findIdx? fun p=>decide (k=p.1)).bind fun j=>(es[j]?).map fun p=>(j,.int .i64 p.2)) w:=by
 obtain ⟨d,hd,hn⟩:=hT.AAc
 have hl:(Ll (Gs enc es)).toList=(es.zipIdx 0).map fun p=>({ key:=enc p.1.1,val:= .int .i64 p.1.2,born:=p.2 }:MapEntry):=by
  simp [Ll,Gs,List.zipIdx_map]
 rw [hl]
 unfold Instr.findKey
 rw [Sem.run_bind,run_underlying hd,Result.andThen_ok]
 rcases hn with hn|hn
 rotate_left
 · rw [XG hn k es 0 0];simp
 cases es with
 |nil=>simp [Instr.findNow]
 |cons p es=>
  have h1:Instr.findNow d (enc k) (((p::es).zipIdx 0).map fun p=>({ key:=enc p.1.1,val:= .int .i64 p.1.2,born:=p.2 }:MapEntry)) 0=none:=by
   rw [List.zipIdx_cons,List.map_cons,Instr.findNow,hn]
  rw [h1]
  have:=Oz hT k w (p::es) 0 0
  simpa using this
theorem A8.AAd {obj:Obj} {r:Ay} (h:A8 M0 w0 S rs M w) (hb:r.blk=some w.heap.size) (hn:r.new=true) (hr:r.h (fun b o=>M b o∨b=w.heap.size) (w.alloc obj)):
  A8 M0 w0 S (r::rs) (fun b o=>M b o∨b=w.heap.size) (w.alloc obj)∧Ext M w (fun b o=>M b o∨b=w.heap.size) (w.alloc obj):=by
 have VU:Below w.heap.size w (w.alloc obj):=(Below.refl _ _).alloc (Nat.le_refl _) _
 have hsz:(w.alloc obj).heap.size=w.heap.size+1:=by simp
 have he:Ext M w (fun b o=>M b o∨b=w.heap.size) (w.alloc obj):=by
  have h2:=Ext.below (M:=M) VU
  refine ⟨h2.size,fun a v hc hm=>⟨fun hx=> ?_,(h2.keep a v hc hm).2⟩,fun b o ho hp hm=>⟨fun hx=> ?_,(h2.obj b o ho hp hm).2⟩⟩
  ·
   rcases hx with hx|hx
   · exact hm hx
   · exact Ew
  · grind
 have hI:=(Hp M0 w0 S rs).st _ _ _ VU h
 refine ⟨⟨hI.m0,fun b o hm=> .inl (hI.m b o hm),hI.os,hI.tape,hI.output,hI.size,hI.block,fun b o hm=> ?_,fun r' hr'=> ?_,?_⟩,he⟩
 ·
  rcases hm with hm|hm
  · exact hI.bd b o hm
  · omega
 ·
  rcases List.mem_cons.1 hr' with rfl|hr'
  ·
   refine ⟨hr,fun b hbk=> ?_⟩
   rw [hb] at hbk
   injection hbk with hbk
   subst hbk
   exact ⟨by omega,by rw [hn];simpa using h.size⟩
  ·
   obtain ⟨h3,h4⟩:=h.hold r' hr'
   exact ⟨r'.st _ _ _ _ he (fun b hbk=>⟨VU.block b (h4 b hbk).1,fun _ x=> .inl x⟩) h3,fun b hbk=>⟨by have:=(h4 b hbk).1;omega,(h4 b hbk).2⟩⟩
 ·
  refine List.Pairwise.cons (fun r' hr' b hbk En=> ?_) h.nd
  rw [hb] at hbk
  injection hbk with hbk
  have:=((h.hold r' hr').2 b En).1
  omega
def DO (w:World) (b:Nat) (o:Obj):World:={ w with heap:=w.heap.setIfInBounds b o }
theorem dj {o:Obj} (h:b<w.heap.size):(DO w b o).heap[b]? =some o:=by
 show (w.heap.setIfInBounds b o)[b]? =_
 rw [Array.getElem?_setIfInBounds];simp [h]
theorem L7 {o:Obj} (h:k≠b):(DO w b o).heap[k]? =w.heap[k]? :=by
 show (w.heap.setIfInBounds b o)[k]? =_
 rw [Array.getElem?_setIfInBounds,if_neg (fun e=>h e.symm)]
theorem A8.AEW {obj:Obj} {r r':Ay} (h:A8 M0 w0 S rs M w) (hj:rs[j]? =some r) (hb:r.blk=some b) (hb':r'.blk=some b) (hn:r.new=true) (hn':r'.new=true) (hM:∀o,M b o) (hr:r'.h M (DO w b obj)):
  A8 M0 w0 S (rs.set j r') M (DO w b obj)∧Ext M w M (DO w b obj):=by
 have hlt:=((h.hold r (List.mem_of_getElem? hj)).2 b hb).1
 have hsz:(DO w b obj).heap.size=w.heap.size:=by simp [DO]
 have he:Ext M w M (DO w b obj):=by
  refine ⟨by omega,fun a v hc hm=>⟨hm,?_⟩,fun k o ho hp hm=>⟨hm,?_⟩⟩
  · rw [World.cell?_of_block (w:=w) (L7 (fun e=>hm (by rw [e];exact hM _)))];exact hc
  · rw [L7 (fun e=>hm (by rw [e];exact hM _))];exact ho
 refine ⟨h.replace hj he rfl rfl rfl (fun k _ hk=>L7 (fun e=>hk (by rw [hb,e]))) hn (fun _ _ hm _=>hm) (fun k o hm=>by rw [hsz];exact h.bd k o hm) hr hn' (fun k hk=> ?_),he⟩
 rw [hb'] at hk
 injection hk with hk
 subst hk
 exact ⟨by omega,.inl hb⟩
variable {Q:Exit→Act→World→Prop} {ops:Array Oper} {r:List Oper}
omit [DecidableEq κ] in
theorem TO.yl (enc:κ→Value) (hg:o.guard=none) (hd:o.dst=some d) (hn:d<n) (ho:o.op= .makeMap T none) (k:∀b,TO P n ops r ((d,is (.map (some b)))::E) (Hp M0 w0 S (L6 enc b []::rs)) Q):TO P n ops (o::r) E (Hp M0 w0 S rs) Q:=
 TO.ZM hg fun K M w a hsz hdf he hI hK=>by
  refine TO.val (v:= .map (some w.heap.size)) (w':=w.alloc (.map #[] 0)) ?_ ?_
  · simp [execOp,ho,Instr.makeMap]
  ·
   obtain ⟨h2,h3⟩:=A8.AAd (obj:= .map #[] 0) (r:=L6 enc w.heap.size []) hI rfl rfl ⟨fun _=> .inr rfl,by rw [heap_alloc_new];rfl⟩
   refine hK _ _ _ _ (k w.heap.size) ⟨_,by rw [B4];exact hsz,by rw [put_defers];exact hdf,?_,h2⟩
   intro s p hp
   simp only [List.lookup] at hp
   by_cases hs:s=d
   · exact Ny
   ·
    rw [show (s==d)=false by simpa using hs] at hp
    rw [hd,BQ hs]
    exact p.st _ _ _ _ _ h3 (he s p hp)
theorem VY {β:Type} (p:β→Bool):∀l:List β,(l.findIdx? p).bind (fun j=>l[j]?)=l.find? p
 |[]=>rfl
 |a::l=>by
  have ih:=VY p l
  rw [List.findIdx?_cons,List.find?_cons]
  cases h:p a with
  |true=>simp
  |false=>
   simp only [Bool.false_eq_true,if_false]
   rw [←ih]
   cases l.findIdx? p<;>simp
theorem gS {kt et:TypeId} {y:Operand} {es:List (κ×Int)} (k:κ) (hT:ZY P T kt et enc) (ho:o.op= .lookup T x y true) (hx:VL E x (is (.map (some b)))) (hy:VL E y q) (hk:∀M w v,q.h M w v→v=enc k):
  L4 P M0 w0 S j (SR.c (L6 enc b es)) o E (DW [int ((look es k).getD 0),bool (look es k).isSome]):=by
 intro M w a rs he hI hj
 have h1:a.eval x=_:=hx.ev he Ap
 have h2:a.eval y=enc k:=hk _ _ _ (hy.ev he Ap)
 have hj':rs[j]? =some (L6 enc b es):=hj
 obtain ⟨_,hh⟩:=(hI.hold _ (List.mem_of_getElem? hj')).1
 have hrun:(execOp a.eval o).run P w= .ok (.value (.tuple #[.int .i64 ((look es k).getD 0),.bool (look es k).isSome])) w:=by
  have hf:=Re hT k w es
  have hg:=VY (fun p:κ×Int=>decide (k=p.1)) es
  unfold look
  cases Wj:es.findIdx? fun p=>decide (k=p.1) with
  |none=>
   rw [Wj] at hf hg
   rw [←hg]
   simp only [Option.bind_none] at hf
   simp [execOp,ho,h1,h2,Instr.lookup,run_underlying hT.und,MapKept.run_getObj_map hh,hT.chk,hf,hT.zero,Result.andThen]
  |some i=>
   rw [Wj] at hf hg
   rw [←hg]
   have Fw:i<es.length:=by rw [List.findIdx?_eq_some_iff_getElem] at Wj;exact Wj.1
   simp only [Option.bind_some,List.getElem?_eq_getElem Fw,Option.map_some] at hf ⊢
   simp [execOp,ho,h1,h2,Instr.lookup,run_underlying hT.und,MapKept.run_getObj_map hh,hT.chk,hf,Result.andThen]
 rw [hrun]
 exact ⟨⟨_,rfl,rfl,rfl,trivial⟩,Below.refl _ _⟩
theorem gT {es:List (κ×Int)} {k:κ} {v:Int} (h:(es.findIdx? fun p=>decide (k=p.1))=none):OH es k v=es++[(k,v)]:=by unfold OH;rw [h]
theorem gU {es:List (κ×Int)} {k:κ} {v:Int} (h:(es.findIdx? fun p=>decide (k=p.1))=some i):OH es k v=es.set i (k,v):=by unfold OH;rw [h]
theorem T2 {kt et:TypeId} {y z:Operand} {es:List (κ×Int)} {v:Int} (k:κ) (hT:ZY P T kt et enc) (hg:o.guard=none) (hd:o.dst=none) (ho:o.op= .mapUpdate T x y z) (hx:VL E x (is (.map (some b)))) (hy:VL E y q) (hk:∀M w v,q.h M w v→v=enc k) (hz:VL E z (int v)):
  DY P M0 w0 S n j (SR.c (L6 enc b es)) (SR.c (L6 enc b (OH es k v))) o E any:=by
 refine ⟨hg,fun M w a rs hsz he hI hj=> ?_⟩
 have h1:a.eval x=_:=hx.ev he Ap
 have h2:a.eval y=enc k:=hk _ _ _ (hy.ev he Ap)
 have h3:a.eval z=_:=hz.ev he Ap
 have hj':rs[j]? =some (L6 enc b es):=hj
 obtain ⟨⟨hM,hh⟩,hbb⟩:=hI.hold _ (List.mem_of_getElem? hj')
 have hlt:=(hbb b rfl).1
 have hf:=Re hT k w es
 have hrun:(execOp a.eval o).run P w= .ok .skip (DO w b (.map (Ll (Gs enc (OH es k v))) (OH es k v).length)):=by
  cases Wj:es.findIdx? fun p=>decide (k=p.1) with
  |none=>
   rw [Wj] at hf
   simp only [Option.bind_none] at hf
   rw [gT Wj]
   have hp:Ll (Gs enc (es++[(k,v)]))=(Ll (Gs enc es)).push { key:=enc k,val:= .int .i64 v,born:=es.length }:=by
    have:=mI (Gs enc es) (enc k) (.int .i64 v)
    rw [List.length_map] at this
    rw [this];simp [Gs]
   rw [hp]
   simp [execOp,ho,h1,h2,h3,Instr.mapUpdate,run_underlying hT.und,MapKept.run_getObj_map hh,hT.chk,hf,MapKept.run_setObj_map _ hh,Result.andThen,DO]
  |some i=>
   have Fw:i<es.length:=by rw [List.findIdx?_eq_some_iff_getElem] at Wj;exact Wj.1
   have Te:(es[i]).1=k:=by
    rw [List.findIdx?_eq_some_iff_getElem] at Wj
    obtain ⟨_,h4,_⟩:=Wj
    simpa using (of_decide_eq_true h4).symm
   rw [Wj] at hf
   simp only [Option.bind_some,List.getElem?_eq_getElem Fw,Option.map_some] at hf
   rw [gU Wj]
   have hp:Ll (Gs enc (es.set i (k,v)))=(Ll (Gs enc es)).modify i fun e=>{ e with key:=enc k,val:= .int .i64 v }:=by
    rw [vA (by simpa using Fw)];simp [Gs]
   have hold:((Ll (Gs enc es))[i]?).map (·.key)=some (enc k):=by
    rw [KB];simp [Gs,List.getElem?_eq_getElem Fw,Te]
   rw [hp,List.length_set]
   simp [execOp,ho,h1,h2,h3,Instr.mapUpdate,run_underlying hT.und,MapKept.run_getObj_map hh,hT.chk,hf,hold,Instr.keyThatStays,hT.bits,MapKept.run_setObj_map _ hh,Result.andThen,DO]
 rw [hrun]
 obtain ⟨h5,h6⟩:=A8.AEW (obj:= .map (Ll (Gs enc (OH es k v))) (OH es k v).length) (r':=L6 enc b (OH es k v)) hI hj' rfl rfl rfl rfl hM ⟨hM,dj hlt⟩
 exact ⟨M,trivial,h6,h5⟩
def O0 (it b m:Nat) (seen:List Nat):Ay where
 blk:=some it
 new:=true
 h M w:=(∀o,M it o)∧w.heap[it]? =some (.mapIter (some b) m seen.toArray m)
 st M w M' w' he hk h:=by
  obtain ⟨h1,h2⟩:=hk it rfl
  exact ⟨fun o=>h2 o (h.1 o),h1.trans h.2⟩
theorem TO.range {kt et:TypeId} {es:List (κ×Int)} (hT:ZY P T kt et enc) (hg:o.guard=none) (hd:o.dst=some d) (hn:d<n) (ho:o.op= .range T x) (hx:VL E x (is (.map (some b)))) (hj:rs[j]? =some (L6 enc b es)) (k:∀it,TO P n ops r ((d,ptr it 0)::E) (Hp M0 w0 S (O0 it b es.length []::rs)) Q):TO P n ops (o::r) E (Hp M0 w0 S rs) Q:=
 TO.ZM hg fun K M w a hsz hdf he hI hK=>by
  have h1:a.eval x=_:=hx.ev (o:=o) (CR he) Ap
  obtain ⟨_,hh⟩:=(A8.hold hI _ (List.mem_of_getElem? hj)).1
  refine TO.val (v:= .pointer (some ⟨w.heap.size,0,none⟩)) (w':=w.alloc (.mapIter (some b) es.length #[] es.length)) ?_ ?_
  · simp [execOp,ho,h1,run_range_map w T kt et b _ _ hT.und hh]
  ·
   obtain ⟨h2,h3⟩:=A8.AAd (obj:= .mapIter (some b) es.length #[] es.length) (r:=O0 w.heap.size b es.length []) hI rfl rfl ⟨fun _=> .inr rfl,by rw [heap_alloc_new]⟩
   refine hK _ _ _ _ (k w.heap.size) ⟨_,by rw [B4];exact hsz,by rw [put_defers];exact hdf,?_,h2⟩
   intro s p hp
   simp only [List.lookup] at hp
   by_cases hs:s=d
   · exact Ny
   ·
    rw [show (s==d)=false by simpa using hs] at hp
    rw [hd,BQ hs]
    exact p.st _ _ _ _ _ h3 (he s p hp)
theorem mem_left {es:List (Value×Value)} {seen:List Nat} {e:MapEntry}:e∈(leftOf (Ll es) seen.toArray).toList↔∃q p,es[q]? =some p∧q∉seen∧e={ key:=p.1,val:=p.2,born:=q }:=by
 unfold leftOf
 rw [Array.toList_filter,List.mem_filter]
 constructor
 ·
  rintro ⟨h1,h2⟩
  obtain ⟨q,hq⟩:=List.mem_iff_getElem?.1 h1
  rw [Array.getElem?_toList,KB] at hq
  cases hp:es[q]? with
  |none=>rw [hp] at hq;cases hq
  |some p=>
   rw [hp] at hq
   simp only [Option.map_some,Option.some.injEq] at hq
   subst hq
   exact ⟨q,p,hp,by simpa using h2,rfl⟩
 ·
  rintro ⟨q,p,hp,hq,rfl⟩
  exact ⟨List.mem_iff_getElem?.2 ⟨q,by rw [Array.getElem?_toList,KB,hp];rfl⟩,by simpa using hq⟩
theorem VZ (ty:TypeId) {it:Nat} {seen:List Nat} {es:List (Value×Value)} (hm:es.length=m) (hit:w.heap[it]? =some (.mapIter (some b) m seen.toArray m)) (hb:w.heap[b]? =some (.map (Ll es) m)):
  ((∀q,q<m→q∈seen)∧(Instr.next (.pointer (some ⟨it,0,none⟩)) false ty).run P w= .ok (.tuple #[.bool false]) w)∨
  ∃q p,es[q]? =some p∧q∉seen∧∃w1,(w1=w∨w1=w.drew)∧(Instr.next (.pointer (some ⟨it,0,none⟩)) false ty).run P w= .ok (.tuple #[.bool true,p.1,p.2]) (DO w1 it (.mapIter (some b) m (seen++[q]).toArray m)):=by
 have hold:∀x∈(Ll es).toList,x.born<m:=by
  intro x hx
  obtain ⟨q,hq⟩:=List.mem_iff_getElem?.1 hx
  rw [Array.getElem?_toList,KB] at hq
  cases hp:es[q]? with
  |none=>rw [hp] at hq;cases hq
  |some p=>
   rw [hp] at hq
   simp only [Option.map_some,Option.some.injEq] at hq
   subst hq
   show q<m
   rcases Nat.lt_or_ge q es.length with h|h
   · omega
   · grind
 simp only [Instr.next,getObj,Sem.run_bind,Sem.run,hit,hb,Result.andThen,next_test_false seen.toArray (Ll es) m m hold (Nat.le_refl _),Bool.false_eq_true,if_false]
 have hleft:(Ll es).filter (fun e=> !seen.toArray.contains e.born)=leftOf (Ll es) seen.toArray:=rfl
 rw [hleft]
 have hmem:∀x∈(leftOf (Ll es) seen.toArray).toList,x.born<m:=fun x hx=>by grind
 have hml:∀e,e∈(leftOf (Ll es) seen.toArray).toList↔∃q p,es[q]? =some p∧q∉seen∧e={ key:=p.1,val:=p.2,born:=q }:=fun e=>mem_left
 generalize leftOf (Ll es) seen.toArray=L at hmem hml ⊢
 have e1:L.filter (fun x=>decide (x.born<m))=L:=Array.filter_eq_self.2 (fun x hx=>by simpa using hmem x Gy)
 have e2:L.filter (fun x=>decide (x.born≥m))= #[]:=by
  rw [Array.filter_eq_empty_iff]
  intro x hx
  have:=hmem x Gy
  simp
  omega
 simp only [e1,e2,Array.append_empty]
 by_cases h0:L.size=0
 ·
  left
  have hL:L= #[]:=Array.eq_empty_of_size_eq_zero h0
  refine ⟨fun q hq=> ?_,?_⟩
  ·
   rcases Classical.em (q∈seen) with h|h
   · exact h
   ·
    have:=(hml { key:=(es[q]'(by omega)).1,val:=(es[q]'(by omega)).2,born:=q }).2 ⟨q,es[q]'(by omega),List.getElem?_eq_getElem AA,h,rfl⟩
    rw [hL] at this;simp at this
  ·
   subst hL
   simp [choose,Sem.run,Question.forced]
 ·
  right
  have hne:L.isEmpty=false:=by simp [Array.isEmpty,h0]
  simp only [hne,Bool.false_eq_true,if_false,Array.empty_append,Array.size_map]
  have hch:∃(j:Nat) (w1:World),j<L.size∧(w1=w∨w1=w.drew)∧(choose (Question.mapNext L.size)).run P w= .ok j w1:=by
   by_cases hf:L.size≤1
   · exact ⟨0,w,by omega,.inl rfl,by simp [choose,Sem.run,Question.forced,hf]⟩
   ·
    exact ⟨_,w.drew,Nat.mod_lt _ AA,.inr rfl,by
     simp only [choose,Sem.run,Question.forced,decide_eq_true_eq,hf,if_false,Question.cut]
     rfl⟩
  obtain ⟨j,w1,hj,hal,hrun⟩:=hch
  obtain ⟨q,p,hq1,ZJ,hq3⟩:=(hml L[j]).1 AR
  refine ⟨q,p,hq1,ZJ,w1,hal,?_⟩
  have hw1:w1.heap=w.heap:=by rcases hal with rfl|rfl<;>rfl
  have Mx:∀(o':Obj),(setObj it o').run P w1= .ok () (DO w1 it o'):=fun o'=>by
   have AIp:w1.heap[it]? =some (.mapIter (some b) m seen.toArray m):=by rw [hw1];exact hit
   simp only [setObj,Sem.run,AIp]
   rfl
  simp only [hrun,Array.getElem?_map,Array.getElem?_eq_getElem hj,Option.map_some,Sem.run_bind,Mx,Result.andThen]
  rw [hq3]
  simp
omit [DecidableEq κ] in
theorem TO.next {it:Nat} {es:List (κ×Int)} {seen:List Nat} (hg:o.guard=none) (hd:o.dst=some d) (hn:d<n) (ho:o.op= .next x false) (hx:VL E x (ptr it 0)) (hi:rs[i]? =some (O0 it b es.length seen)) (hj:rs[j]? =some (L6 enc b es)) (k1:(∀q,q<es.length→q∈seen)→TO P n ops r ((d,DW [bool false])::E) (Hp M0 w0 S rs) Q) (k2:∀q p,es[q]? =some p→q∉seen→TO P n ops r ((d,DW [bool true,is (enc p.1),int p.2])::E) (Hp M0 w0 S (rs.set i (O0 it b es.length (seen++[q])))) Q):TO P n ops (o::r) E (Hp M0 w0 S rs) Q:=
 TO.ZM hg fun K M w a hsz hdf he hI hK=>by
  have h1:a.eval x= .pointer (some ⟨it,0,none⟩):=hx.ev (o:=o) (CR he) Ap
  obtain ⟨⟨hMi,hit⟩,hbi⟩:=A8.hold hI _ (List.mem_of_getElem? hi)
  obtain ⟨_,hh⟩:=(A8.hold hI _ (List.mem_of_getElem? hj)).1
  have hlt:=(hbi it rfl).1
  rcases VZ (P:=P) o.type (es:=Gs enc es) (by simp [Gs]) hit hh with ⟨h2,h3⟩|⟨q,p,h2,h3,w1,h4,h5⟩
  ·
   refine TO.val (v:= .tuple #[.bool false]) (w':=w) ?_ ?_
   · simp [execOp,ho,h1,h3]
   ·
    refine hK _ _ _ _ (k1 h2) ⟨M,by rw [B4];exact hsz,by rw [put_defers];exact hdf,?_,hI⟩
    intro s p hp
    simp only [List.lookup] at hp
    by_cases hs:s=d
    · subst hs;simp at hp;subst hp;rw [hd,B1 H_];exact ⟨_,rfl,rfl,trivial⟩
    ·
     rw [show (s==d)=false by simpa using hs] at hp
     rw [hd,BQ hs];exact he s p hp
  ·
   have Vb:∃p',es[q]? =some p'∧p=(enc p'.1,.int .i64 p'.2):=by
    simp only [Gs,List.getElem?_map] at h2
    cases h:es[q]? with
    |none=>rw [h] at h2;cases h2
    |some p'=>rw [h] at h2;simp at h2;exact ⟨p',rfl,h2.symm⟩
   obtain ⟨p',hp',rfl⟩:=Vb
   refine TO.val (v:= .tuple #[.bool true,enc p'.1,.int .i64 p'.2]) (w':=DO w1 it (.mapIter (some b) es.length (seen++[q]).toArray es.length)) ?_ ?_
   · simp [execOp,ho,h1,h5]
   ·
    have AAe:Below w.heap.size w w1:=by
     rcases h4 with rfl|rfl
     · exact Below.refl _ _
     · exact (Below.refl _ _).drew
    have hI1:=(Hp M0 w0 S rs).st _ _ _ AAe hI
    obtain ⟨h6,h7⟩:=A8.AEW (obj:= .mapIter (some b) es.length (seen++[q]).toArray es.length) (r':=O0 it b es.length (seen++[q])) hI1 hi rfl rfl rfl rfl hMi ⟨hMi,dj (Nat.lt_of_lt_of_le hlt AAe.size)⟩
    refine hK _ _ _ _ (k2 q p' hp' h3) ⟨M,by rw [B4];exact hsz,by rw [put_defers];exact hdf,?_,h6⟩
    intro s p hp
    simp only [List.lookup] at hp
    by_cases hs:s=d
    · subst hs;simp at hp;subst hp;rw [hd,B1 H_];exact ⟨_,rfl,rfl,rfl,rfl,trivial⟩
    ·
     rw [show (s==d)=false by simpa using hs] at hp
     rw [hd,BQ hs]
     exact p.st _ _ _ _ _ ((Ext.below AAe).trans h7) (he s p hp)
omit [DecidableEq κ] in
theorem TO.entry {it q:Nat} {es:List (κ×Int)} {seen:List Nat} {p:κ×Int} (hg:o.guard=none) (hd:o.dst=some d) (hn:d<n) (ho:o.op= .entry x) (hx:VL E x (ptr it 0)) (hi:rs[i]? =some (O0 it b es.length (seen++[q]))) (hj:rs[j]? =some (L6 enc b es)) (hq:es[q]? =some p) (k:TO P n ops r ((d,DW [is (enc p.1),int p.2])::E) (Hp M0 w0 S rs) Q):TO P n ops (o::r) E (Hp M0 w0 S rs) Q:=
 TO.ZM hg fun K M w a hsz hdf he hI hK=>by
  have h1:a.eval x= .pointer (some ⟨it,0,none⟩):=hx.ev (o:=o) (CR he) Ap
  obtain ⟨⟨_,hit⟩,_⟩:=A8.hold hI _ (List.mem_of_getElem? hi)
  obtain ⟨_,hh⟩:=(A8.hold hI _ (List.mem_of_getElem? hj)).1
  have hat:(Ll (Gs enc es))[q]? =some { key:=enc p.1,val:= .int .i64 p.2,born:=q }:=by rw [KB];simp [Gs,hq]
  have hnd:((Ll (Gs enc es)).toList.map (·.born)).Nodup:=by
   have:(Ll (Gs enc es)).toList.map (·.born)=List.range (Gs enc es).length:=by
    apply List.ext_getElem?
    intro k
    rw [List.getElem?_map,Array.getElem?_toList,KB]
    by_cases hk:k<(Gs enc es).length
    · rw [List.getElem?_range hk,List.getElem?_eq_getElem hk];rfl
    · rw [List.getElem?_eq_none (Nat.le_of_not_lt hk),List.getElem?_eq_none (by simp at hk ⊢;omega)];rfl
   rw [this];exact List.nodup_range
  have hfind:(Ll (Gs enc es)).find? (fun e=>e.born==q)=some { key:=enc p.1,val:= .int .i64 p.2,born:=q }:=by
   rw [←Array.find?_toList]
   exact find_born { key:=enc p.1,val:= .int .i64 p.2,born:=q } _ hnd (List.mem_iff_getElem?.2 ⟨q,by rw [Array.getElem?_toList];exact hat⟩)
  refine TO.val (v:= .tuple #[enc p.1,.int .i64 p.2]) (w':=w) ?_ ?_
  ·
   have:(Instr.entry (.pointer (some ⟨it,0,none⟩))).run P w= .ok (.tuple #[enc p.1,.int .i64 p.2]) w:=by
    have hb:(seen++[q]).toArray.back? =some q:=by simp
    simp only [Instr.entry,getObj,Sem.run_bind,Sem.run,hit,hh,Result.andThen,hb,bne_self_eq_false,Bool.false_eq_true,if_false,hfind]
    rfl
   simp [execOp,ho,h1,this]
  ·
   refine hK _ _ _ _ k ⟨M,by rw [B4];exact hsz,by rw [put_defers];exact hdf,?_,hI⟩
   intro s p hp
   simp only [List.lookup] at hp
   by_cases hs:s=d
   · subst hs;simp at hp;subst hp;rw [hd,B1 H_];exact ⟨_,rfl,rfl,rfl,trivial⟩
   ·
    rw [show (s==d)=false by simpa using hs] at hp
    rw [hd,BQ hs];exact he s p hp
end
section
variable {P:Program} {L:Lg P}
theorem vB {k:IntKind} {e:Bool} (ht:P.underlying t=some (.int k)) (w:World):(Instr.checkKey e (d+1) t v).run P w= .ok () w:=by
 simp [Instr.checkKey,run_underlying ht]
end
section
variable {P:Program} {L:Lg P} {n:Fm} {fz:Nat} {E:Env} {M0:Av} {w0:World} {S:Nat→Prop} {rs:List Ay} {o:Oper}
theorem PU (w:World) (A:Option Addr) (t ty e:TypeId) (i:TypeInfo) (z:Value) (ht:P.underlying t=some (.slice e)) (hi:P.info? e=some i) (hz:i.zero=some z)
  (a:Addr) (n c:Nat) (news:List Value) (hl:news.length=n*i.size) (hnews:∀j v,news[j]? =some v→w.cell? (a.add j)=some v)
  (h0:0<n) (h63:(n:Int)≤9223372036854775807) (h48:n*i.bytes≤281474976710656):
  (Builtin.append_ #[t, t] ty #[.slice A 0 0, .slice (some a) n c]).run P w =
   .ok (.slice (some ⟨w.heap.size,0,none⟩) n (grownCap w n 0 e)) (w.drew.alloc (.cells (news.toArray++Builtin.zeroCells z.cells (grownCap w n 0 e-n)) e)):=by
 cases A with
 |none=>exact run_append_nil (w:=w) t ty e i z ht hi hz a n c news hl hnews h0 h63 h48
 |some b=>
  have:=run_append_grow (w:=w) t ty e i z ht hi hz b 0 0 [] AR AR a n c news hl hnews AA (by simpa using h63) (by rw [Nat.zero_add,nextslicecap_zero h0];exact h48)
  simpa using this
theorem mJ {ty:TypeId} {sz bytes:Nat} {u:Value} (A:Option Addr) (ht:P.underlying t=some (.slice e)) (hz:Az P e=some sz) (hby:Br P e=some bytes) (D8:BM P e=some zs) (hzl:zs.length=sz) (hone:zs.all (·.oneCell')=true) (hsz:0<sz) (h:A8 M0 w0 S rs M w) (hj:rs[j]? =some Bo) (hu:(slice sz rows).h M w u) (hpos:0<rows.length) (Gc:rows.length≤maxLen) (hfit:rows.length*bytes≤140737488355328):
  ∃v' w' M',(Builtin.append_ #[t,t] ty #[.slice A 0 0,u]).run P w= .ok v' w'∧(lens rows.length).h M' w' v'∧Ext M w M' w'∧A8 M0 w0 S (rs.set j (HJ e sz rows v')) M' w':=by
 unfold Az at hz
 unfold Br at hby
 unfold BM at D8
 cases hi:P.info? e with
 |none=>rw [hi] at hz;cases hz
 |some i=>
  rw [hi] at hz hby D8
  simp only [Option.map_some,Option.some.injEq,Option.map_eq_some_iff] at hz hby D8
  obtain ⟨z,Wg,D8⟩:=D8
  have dF:z.cells.size=sz:=by rw [←hzl,←D8];simp
  obtain ⟨A',c',rfl,hmc,ZQ,hA',HD⟩:=hu
  have Ti:(slice sz rows).h M w (.slice A' rows.length c'):=⟨A',c',rfl,hmc,ZQ,hA',HD⟩
  obtain ⟨Tq,rfl⟩:∃Tq,A'=some Tq:=by
   obtain ⟨_,b,hb,_⟩:=HD 0 _ (List.getElem?_eq_getElem hpos)
   exact ⟨b,hb⟩
  obtain ⟨news,hfl,hcell⟩:=GC hsz Ti
  have hrun:=PU (P:=P) w A t ty e i z ht hi Wg Tq rows.length c' news (by rw [hz];exact hfl.1) (fun k u hk=>(hcell k u hk).1) hpos Pt (by rw [hby];omega)
  generalize hcap:grownCap w rows.length 0 e=cap at hrun
  have hge:rows.length≤cap:=by rw [←hcap];exact grownCap_ge _ _ _ _
  have hle:cap≤maxLen:=by rw [←hcap];exact grownCap_le_maxLen _ _ _ _ Gc
  generalize TD:Builtin.zeroCells z.cells (cap-rows.length)=zc at hrun
  have hzs:zc.size=(cap-rows.length)*sz:=by rw [←TD,size_zeroCells,dF]
  have hzo:∀c∈zc.toList,c.oneCell'=true:=by rw [←TD];exact EZ D8 hone
  have hb:Below w.heap.size w (w.drew.alloc (.cells (news.toArray++zc) e)):=((Below.refl _ _).drew).alloc (Nat.le_refl _) _
  have h2:=Ext.below (M:=M) hb
  have Eo:Ext M w (fun b o=>M b o∨b=w.heap.size) (w.drew.alloc (.cells (news.toArray++zc) e)):=by
   refine ⟨h2.size,fun a v hc hm=>⟨fun hx=> ?_,(h2.keep a v hc hm).2⟩,fun b o ho hp hm=>⟨fun hx=> ?_,(h2.obj b o ho hp hm).2⟩⟩
   ·
    rcases hx with hx|hx
    · exact hm hx
    · exact Ew
   · grind
  have hs1:(w.drew.alloc (.cells (news.toArray++zc) e)).heap.size=w.heap.size+1:=by simp
  refine ⟨_,_,fun b o=>M b o∨b=w.heap.size,hrun,⟨_,_,rfl⟩,Eo,?_⟩
  refine h.replace hj Eo hb.os hb.tape hb.output (fun k hk _=>hb.block k hk) rfl (fun b o hm _=> .inl hm) (fun b o hx=> ?_) ?_ rfl (fun b hbk=> ?_)
  ·
   rcases hx with hx|hx
   · exact Kw
   · omega
  ·
   refine ⟨w.heap.size,cap,zc.toList,rfl,hge,hle,by simpa using hzs,fun o=> .inr rfl,news++zc.toList,?_,?_,?_⟩
   ·
    have hh:(w.drew.alloc (.cells (news.toArray++zc) e)).heap[w.heap.size]? =some (.cells (news.toArray++zc) e (0,0)):=heap_alloc_new w.drew _
    rw [hh];simp
   · exact ((hfl.st Eo).hl hsz).app (J3 _ _ _)
   ·
    intro c hc
    rcases List.mem_append.1 hc with hc|hc
    · exact hfl.2.1 c hc
    · exact hzo c hc
  ·
   have En:some w.heap.size=some b:=hbk
   injection En with e1
   subst e1
   exact ⟨by rw [hs1];omega,.inr (Nat.le_refl _)⟩
theorem FB {I:Cc} {A:Option Addr} (ho:o.op= .call { callee:= .builtin .len,args:= #[x],argTypes:= #[t] }) (ht:P.underlying t=some (.slice e)) (hx:VL E x (is (.slice A m cap))):Ab P I o E (int m):=
 Ab.same fun M w a he _=>by
  have h1:a.eval x=_:=hx.ev he Da
  exact ⟨.int .i64 m,by simp [execOp,ho,resolve,invoke,builtin,Builtin.len_,h1,run_underlying ht,goInt],rfl⟩
theorem FP {I:Cc} {y:Operand} {k:IntKind} {h:Int} {sz:Nat} (ho:o.op= .slice t x none (some y) none) (ht:P.underlying t=some (.slice e)) (hz:Az P e=some sz) (hx:VL E x (is (.slice (some ⟨b,0,none⟩) m cap))) (hy:VL E y (is (.int k h))) (h0:0≤h) (hl:h≤m) (hc:m≤cap) (h1m:0<cap):
  Ab P I o E (is (.slice (some ⟨b,0,none⟩) h.toNat cap)):=
 Ab.same fun M w a he _=>by
  have h1:a.eval x=_:=hx.ev he Ap
  have h3:a.eval y=_:=hy.ev he Ap
  have hb:h≤(cap:Int):=by omega
  refine ⟨_,?_,rfl⟩
  simp [execOp,ho,h1,h3,Instr.sliceAt,Instr.slice,run_underlying ht,Instr.sliceBounds,Instr.sliceBound,asIntOf,h0,hb,CL hz]
  intro _;rfl
theorem GY {I:Cc} {y:Operand} {k:IntKind} {l:Int} {sz:Nat} (ho:o.op= .slice t x (some y) none none) (ht:P.underlying t=some (.slice e)) (hz:Az P e=some sz) (hx:VL E x (is (.slice (some ⟨b,0,none⟩) m cap))) (hy:VL E y (is (.int k l))) (h0:0≤l) (hl:l<m) (hc:m≤cap):
  Ab P I o E (is (.slice (some ⟨b,l.toNat*sz,none⟩) (m-l.toNat) (cap-l.toNat))):=
 Ab.same fun M w a he _=>by
  have h1:a.eval x=_:=hx.ev he Ap
  have h3:a.eval y=_:=hy.ev he Ap
  have hb:l≤(m:Int):=by omega
  have hne:¬cap=l.toNat:=by omega
  refine ⟨_,?_,rfl⟩
  simp [execOp,ho,h1,h3,Instr.sliceAt,Instr.slice,run_underlying ht,Instr.sliceBounds,Instr.sliceBound,asIntOf,h0,hb,CL hz,hne,Ff]
theorem vC {z:Array Value} (hz:z.toList=zs) (h0:0<zs.length):HL M w (List.replicate k (zs.map is)).flatten (Builtin.zeroCells z k).toList:=by
 have hlr:∀r∈List.replicate k (zs.map is),r.length=zs.length:=fun r hr=>by grind
 have hfl:=Cv hlr
 rw [List.length_replicate] at hfl
 have hzs:z.size=zs.length:=by rw [←hz];simp
 refine T0 (by rw [Array.length_toList,size_zeroCells,hfl,hzs]) fun i p hi=> ?_
 have Fw:i<k*zs.length:=by grind
 have hq:i/zs.length<k:=Nat.div_lt_of_lt_mul (by rw [Nat.mul_comm];exact Fw)
 have hm:i % zs.length<zs.length:=Nat.mod_lt _ h0
 have he:i/zs.length*zs.length+i % zs.length=i:=by rw [Nat.mul_comm];exact Nat.div_add_mod i _
 rw [←he,JF hlr (by rw [List.getElem?_replicate,if_pos hq]) hm,List.getElem?_map,List.getElem?_eq_getElem hm] at hi
 simp only [Option.map_some,Option.some.injEq] at hi
 subst hi
 refine ⟨zs[i % zs.length],?_,rfl⟩
 have hzl:i<k*z.size:=by rw [hzs];exact Fw
 simp only [Builtin.zeroCells,Array.toList_map,Array.toList_range,List.getElem?_map]
 rw [List.getElem?_range hzl]
 subst hz
 simp only [Option.map_some,Option.some.injEq]
 have hm':i % z.size<z.size:=by rw [hzs];exact hm
 rw [getElem!_pos z _ hm',←Array.getElem_toList]
 congr 1
theorem XH {off sz:Nat} {ps':List Pr} (hg:o.guard=none) (ho:o.op= .call { callee:= .builtin .clear,args:= #[x],argTypes:= #[t] }) (ht:P.underlying t=some (.slice e)) (hz:Az P e=some sz) (D8:BM P e=some zs) (hzl:zs.length=sz) (hone:zs.all (·.oneCell')=true) (hsz:0<sz) (hx:VL E x (is (.slice (some ⟨b,off,none⟩) m cap))) (hm:0<m) (hl:off+m*sz≤ps.length) (hps:ps.take off++(List.replicate m (zs.map is)).flatten++ps.drop (off+m*sz)=ps'):DY P M0 w0 S n j (SR.c (AE new b T ps)) (SR.c (AE new b T ps')) o E any:=by
 refine ⟨hg,fun M w a rs Uz he hI hj=> ?_⟩
 have h1:a.eval x=_:=hx.ev he Da
 unfold BM at D8
 cases hi:P.info? e with
 |none=>rw [hi] at D8;cases D8
 |some i=>
  rw [hi] at D8
  simp only [Option.map_eq_some_iff] at D8
  obtain ⟨z,Wg,D8⟩:=D8
  have dF:z.cells.size=sz:=by rw [←hzl,←D8];simp
  obtain ⟨⟨_,cs,h4,h5,h6⟩,_⟩:=hI.hold _ (List.mem_of_getElem? hj)
  have h5l:=h5.length
  have hzs:(Builtin.zeroCells z.cells m).size=m*sz:=by rw [size_zeroCells,dF]
  have h3:∀c∈(Builtin.zeroCells z.cells m).toList,c.oneCell'=true:=EZ D8 hone
  have hrun:(storeCells ⟨b,off,none⟩ (Builtin.zeroCells z.cells m).toList 0).run P w= .ok () (w.setRow b (cs.take off++(Builtin.zeroCells z.cells m).toList++cs.drop (off+m*sz)).toArray):=by
   have:=run_storeCells_at (P:=P) b off T (Builtin.zeroCells z.cells m).toList 0 cs.toArray w h4 (by simp [hzs];omega) h3
   simpa [hzs] using this
  obtain ⟨m',rfl⟩:∃m',m=m'+1:=⟨m-1,by omega⟩
  have Ep:(execOp a.eval o).run P w= .ok (.value (.tuple #[])) (w.setRow b (cs.take off++(Builtin.zeroCells z.cells (m'+1)).toList++cs.drop (off+(m'+1)*sz)).toArray):=by
   simp [execOp,ho,h1,resolve,invoke,builtin,Builtin.clear_,run_underlying ht,zeroValue,typeInfo,hi,Wg,hrun]
  rw [Ep]
  obtain ⟨h7, h8⟩ := A8.write (qs := ps') (cs := cs.take off ++ (Builtin.zeroCells z.cells (m' + 1)).toList ++ cs.drop (off + (m' + 1) * sz)) hI hj (by rw [← hps]; exact (((h5.take off).app (vC D8 AA))).app (h5.drop (off + (m' + 1) * sz)))
   (fun c hc=>by
    simp only [List.mem_append] at hc
    rcases hc with (hc|hc)|hc
    · grind
    · exact h3 c hc
    · exact h6 c (List.mem_of_mem_drop hc))
  exact ⟨M,trivial,h8,h7⟩
theorem mK {β:Type} {f:β→List Pr} {l:List β} {sz:Nat} (hf:∀x,(f x).length=sz) {x:β} (h:l[i]? =some x):((((l.map f).flatten++qs).drop (i*sz)).take sz)=f x:=by
 have hl:∀r∈l.map f,r.length=sz:=fun r hr=>by grind
 have hi:i<l.length:=by grind
 have hfl:=Cv hl
 rw [List.length_map] at hfl
 have hle:(i+1)*sz≤l.length*sz:=Nat.mul_le_mul_right sz hi
 rw [Nat.add_mul,Nat.one_mul] at hle
 apply List.ext_getElem?
 intro k
 rw [List.getElem?_take]
 split
 ·
  rename_i hk
  rw [List.getElem?_drop,List.getElem?_append_left (by rw [hfl];omega),JF hl (by rw [List.getElem?_map,h];rfl) hk]
 · grind
theorem OI {β:Type} {f:β→List Pr} {sz:Nat} (hf:∀x,(f x).length=sz):∀{l:List β} {qs:List Pr} {i:Nat} {x:β},i<l.length→((l.map f).flatten++qs).take (i*sz)++f x++((l.map f).flatten++qs).drop (i*sz+sz)=((l.set i x).map f).flatten++qs
 |[],_,_,_,h=>by simp at h
 |a::l,qs,0,x,_=>by
  simp only [List.map_cons,List.flatten_cons,Nat.zero_mul,List.take_zero,List.nil_append,Nat.zero_add,List.set_cons_zero]
  rw [←hf a,List.append_assoc,List.drop_left,List.append_assoc]
 |a::l,qs,i+1,x,h=>by
  have ih:=OI hf (l:=l) (qs:=qs) (i:=i) (x:=x) D5
  simp only [List.map_cons,List.flatten_cons,List.set_cons_succ]
  have e1:(i+1)*sz=(f a).length+i*sz:=by rw [hf a,Nat.add_mul];omega
  rw [List.append_assoc,List.append_assoc,e1,List.take_append,List.take_of_length_le AA,show (f a).length+i*sz-(f a).length=i*sz by omega,show (f a).length+i*sz+sz=(f a).length+(i*sz+sz) by omega,List.drop_append,List.drop_of_length_le AA,show (f a).length+(i*sz+sz)-(f a).length=i*sz+sz by omega,List.nil_append,List.append_assoc (f a) _ qs,←ih]
  simp only [List.append_assoc]
theorem TO.Oy {r:List Oper} {Q:Exit→Act→World→Prop} {sz:Nat} (j:Nat) (hj:rs[j]? =some (HJ e sz rows v)) (k:∀(b cap:Nat) (spare:List Value),v= .slice (some ⟨b,0,none⟩) rows.length cap→rows.length≤cap→cap≤maxLen→spare.length=(cap-rows.length)*sz→TO P n ops r E (Hp M0 w0 S (rs.set j (AE true b e (rows.flatten++spare.map is)))) Q):TO P n ops r E (Hp M0 w0 S rs) Q:=
 fun m hl a w hs=>let ⟨b,cap,spare,h1,h2,h3,h4,h5⟩:=hs.Oy j hj;k b cap spare h1 h2 h3 h4 m hl a w h5
theorem Kn {β:Type} {f:β→List Pr} {l:List β} {sz:Nat} (hf:∀x,(f x).length=sz):((l.map f).flatten++qs).length=l.length*sz+qs.length:=by
 rw [List.length_append,Cv (sz:=sz) (fun r hr=>by obtain ⟨y,_,rfl⟩:=List.mem_map.1 hr;exact hf y),List.length_map]
theorem Bh {β:Type} {f:β→List Pr} {l:List β} {sz:Nat} (hf:∀x,(f x).length=sz):∀r∈l.map f,r.length=sz:=by grind
theorem Rf {β:Type} {f:β→List Pr} {sz:Nat} (hf:∀x,(f x).length=sz) {l:List β} {x:β} (h:i<l.length):((l.map f).flatten++qs).take (0+((i:Nat):Int).toNat*sz)++f x++((l.map f).flatten++qs).drop (0+((i:Nat):Int).toNat*sz+sz)=((l.set i x).map f).flatten++qs:=by
 rw [Nat.zero_add,Int.toNat_natCast];exact OI hf h
theorem St.Vc {sz:Nat} (j d:Nat) (hj:rs[j]? =some (AE true b e (rows.flatten++qs))) (hd:E.lookup d=some p) (hp:Pr.le p (is (.slice (some ⟨b,0,none⟩) rows.length cap))) (hl:∀r∈rows,r.length=sz) (hc:rows.length≤cap) (hm:cap≤maxLen) (hq:qs.length=(cap-rows.length)*sz) (h:St n E (Hp M0 w0 S rs) a w):St n ((d,Ag (.slice (some ⟨b,0,none⟩) rows.length cap) (slice sz rows))::E) (Hp M0 w0 S (rs.set j (Ax e sz (.slice (some ⟨b,0,none⟩) rows.length cap)))) a w:=by
 obtain ⟨M,h1,h2,h3,h4⟩:=h
 obtain ⟨M',h5,h6,h7⟩:=A8.frz h4 hj hl hc hm hq
 refine ⟨M',h1,h2,fun s q hs=> ?_,h6⟩
 simp only [List.lookup] at hs
 split at hs
 ·
  rename_i e1
  have:s=d:=by simpa using e1
  subst this
  simp only [Option.some.injEq] at hs
  subst hs
  have h8:=hp _ _ _ (h3 _ _ hd)
  exact ⟨h8,by rw [show a.tmps.getD s undef=_ from h8];exact h7⟩
 · exact q.st _ _ _ _ _ h5 (h3 s q hs)
theorem Tr.Vc {Q:Exit→Act→World→Prop} {c:Code} {sz:Nat} (rows:List (List Pr)) (j d:Nat) (hj:rs[j]? =some (AE true b e (rows.flatten++qs))) (hd:E.lookup d=some p) (hp:Pr.le p (is (.slice (some ⟨b,0,none⟩) rows.length cap))) (hl:∀r∈rows,r.length=sz) (hc:rows.length≤cap) (hm:cap≤maxLen) (hq:qs.length=(cap-rows.length)*sz) (k:Tr L n ((d,Ag (.slice (some ⟨b,0,none⟩) rows.length cap) (slice sz rows))::E) (Hp M0 w0 S (rs.set j (Ax e sz (.slice (some ⟨b,0,none⟩) rows.length cap)))) c Q):Tr L n E (Hp M0 w0 S rs) c Q:=
 Tr.conv (fun _ _ hs=>hs.Vc j d hj hd hp hl hc hm hq) k
theorem Fin.Vc {Q:Exit→Act→World→Prop} {x:Exit} {sz:Nat} (rows:List (List Pr)) (j d:Nat) (hj:rs[j]? =some (AE true b e (rows.flatten++qs))) (hd:E.lookup d=some p) (hp:Pr.le p (is (.slice (some ⟨b,0,none⟩) rows.length cap))) (hl:∀r∈rows,r.length=sz) (hc:rows.length≤cap) (hm:cap≤maxLen) (hq:qs.length=(cap-rows.length)*sz) (k:Fin n ((d,Ag (.slice (some ⟨b,0,none⟩) rows.length cap) (slice sz rows))::E) (Hp M0 w0 S (rs.set j (Ax e sz (.slice (some ⟨b,0,none⟩) rows.length cap)))) Q x):Fin n E (Hp M0 w0 S rs) Q x:=
 Fin.conv (fun _ _ hs=>hs.Vc j d hj hd hp hl hc hm hq) k
end
section
variable {P:Program} {L:Lg P} {n:Fm} {fz:Nat} {E:Env} {M0:Av} {w0:World} {S:Nat→Prop} {rs:List Ay} {o:Oper} {g:Func} {M1:Av} {w1:World}
theorem XI {β:Type} {f:β→List Pr} {l:List β} (hf:∀x,(f x).length=1) {i:Int} {x:β} (h:l[i.toNat]? =some x) (hp:f x=[p]):((l.map f).flatten++qs)[0+i.toNat*1]? =some p:=by
 have hl:∀r∈l.map f,r.length=1:=Bh hf
 have hi:i.toNat<l.length:=by grind
 have hfl:=Cv hl
 rw [List.length_map] at hfl
 rw [Nat.zero_add,List.getElem?_append_left (by rw [hfl];omega),show i.toNat*1=i.toNat*1+0 by omega,JF hl (by rw [List.getElem?_map,h];rfl) AA,hp];rfl
def Er (T:TypeId) (ps:List Pr) (v:Value):Ay:=match v with| .pointer (some a)=>AE true a.block T ps|_=>Bo
theorem Ca (hg:o.guard=none) (hd:o.dst=some d) (hn:d<n) (ho:o.op= .alloc T) (hz:BM P T=some zs) (h1':zs.all (·.oneCell')=true):
  DY P M0 w0 S n j (SR.c Bo) ⟨d,Er T (zs.map is)⟩ o E (Cp.ex fun b=>ptr b 0):=by
 refine ⟨hg,fun M w a rs Uz he hI hj=> ?_⟩
 have h1:∀c∈zs,c.oneCell'=true:=fun c hc=>List.all_eq_true.1 h1' c hc
 obtain ⟨z,E2,HW⟩:=Wv hz w
 have hrun:(execOp a.eval o).run P w= .ok (.value (.pointer (some ⟨w.heap.size,0,none⟩))) (w.alloc (.cells zs.toArray T)):=by simp [execOp,ho,Instr.alloc,E2,newVar,newRow,←HW]
 rw [hrun]
 have hb:Below w.heap.size w (w.alloc (.cells zs.toArray T)):=(Below.refl _ _).alloc (Nat.le_refl _) _
 have h2:=Ext.below (M:=M) hb
 have Eo:Ext M w (fun b o=>M b o∨b=w.heap.size) (w.alloc (.cells zs.toArray T)):=by
  refine ⟨h2.size,fun a v hc hm=>⟨fun hx=> ?_,(h2.keep a v hc hm).2⟩,fun b o ho hp hm=>⟨fun hx=> ?_,(h2.obj b o ho hp hm).2⟩⟩
  ·
   rcases hx with hx|hx
   · exact hm hx
   · exact Ew
  · grind
 have hs1:(w.alloc (.cells zs.toArray T)).heap.size=w.heap.size+1:=by simp
 have hat:(SR.at_ (a.put o.dst (.pointer (some ⟨w.heap.size,0,none⟩))) ⟨d,Er T (zs.map is)⟩)=AE true w.heap.size T (zs.map is):=by unfold SR.at_ Slot.val;dsimp only;rw [hd,B1 Hf];rfl
 refine ⟨fun b o=>M b o∨b=w.heap.size,⟨_,rfl⟩,Eo,?_⟩
 rw [hat]
 refine hI.replace hj Eo hb.os hb.tape hb.output (fun k hk _=>hb.block k hk) rfl (fun b o hm _=> .inl hm) (fun b o hx=> ?_) ?_ rfl (fun b hbk=> ?_)
 ·
  rcases hx with hx|hx
  · have:=hI.bd _ _ hx;omega
  · omega
 · refine ⟨fun o=> .inr rfl,zs,heap_alloc_new w _,J3 _ _ _,h1⟩
 ·
  have En:some w.heap.size=some b:=hbk
  injection En with e1
  subst e1
  exact ⟨by rw [hs1];omega,.inr (Nat.le_refl _)⟩
theorem C2 {s:Tmp} {y:Operand} (hg:o.guard=none) (hd:o.dst=none) (ho:o.op= .store t (.tmp s) y) (hx:E.lookup s=some (Cp.ex fun b=>ptr b 0)) (hy:VL E y (DP qs)) (hz:Az P t=some m) (hm:qs.length=m) (hl:ps.length=m):DY P M0 w0 S n j ⟨s,Er T ps⟩ ⟨s,Er T qs⟩ o E any:=by
 refine ⟨hg,fun M w a rs hsz he hI hj=> ?_⟩
 have hxv:VL E (.tmp s) (Cp.ex fun b=>ptr b 0):=⟨_,hx,Pr.le_refl _⟩
 obtain ⟨b,h1'⟩:=hxv.ev he (show (Operand.tmp s)∈o.op.operands.toList by simp [ho,Op.operands])
 have h1:a.eval (.tmp s)= .pointer (some ⟨b,0,none⟩):=h1'
 have h1t:a.tmps.getD s undef= .pointer (some ⟨b,0,none⟩):=h1
 have hj':rs[j]? =some (AE true b T ps):=by
  rw [hj];show some (Er T ps (a.tmps.getD s undef))=_;rw [h1t];rfl
 obtain ⟨h2,h3⟩:=hy.ev he (show y∈o.op.operands.toList by simp [ho,Op.operands])
 obtain ⟨⟨_,cs,h4,h5,h6⟩,_⟩:=hI.hold _ (List.mem_of_getElem? hj')
 have h5l:=h5.length
 have h2l:=h2.length
 have hcells:(a.eval y).cells.size=m:=by rw [←hm,←h2l];simp
 have hrun:(storeCells ⟨b,0,none⟩ (a.eval y).cells.toList 0).run P w= .ok () (w.setRow b (cs.take 0++(a.eval y).cells.toList++cs.drop (0+m)).toArray):=by
  have:=run_storeCells_at (P:=P) b 0 T (a.eval y).cells.toList 0 cs.toArray w h4 Bz h3
  simpa [hcells] using this
 have AEX:cs.drop (0+m)=[]:=List.drop_eq_nil_of_le AA
 rw [AEX,List.take_zero,List.nil_append,List.append_nil] at hrun
 have Ep:(execOp a.eval o).run P w= .ok .skip (w.setRow b (a.eval y).cells.toList.toArray):=by
  simp only [execOp,ho,h1,Instr.storeAt,Instr.sureAddr,storeVar]
  simp [CL hz,hcells,hrun]
 rw [Ep]
 obtain ⟨h7,h8⟩:=A8.write (qs:=qs) (cs:=(a.eval y).cells.toList) hI hj' h2 h3
 refine ⟨M,trivial,h8,?_⟩
 have hat:(SR.at_ (a.put o.dst undef) ⟨s,Er T qs⟩)=AE true b T qs:=by
  rw [hd];show Er T qs (a.tmps.getD s undef)=_;rw [h1t];rfl
 rw [hat];exact h7
theorem Fin.Mh {Q:Exit→Act→World→Prop} {x:Exit} (s j:Nat) {f:Value→Ay} (g:Nat→Ay) (hs:E.lookup s=some (Ag v (Cp.ex fun b=>ptr b 0))) (hi:rs[j]? =some (f v)) (hf:∀b,f (.pointer (some ⟨b,0,none⟩))=g b) (k:∀b,Fin n ((s,ptr b 0)::E) (Hp M0 w0 S (rs.set j (g b))) Q x):Fin n E (Hp M0 w0 S rs) Q x:=by
 intro a w hst
 obtain ⟨M,h1,h2,he,h4⟩:=hst
 obtain ⟨h5,b,h6⟩:=he s _ hs
 have hv:v= .pointer (some ⟨b,0,none⟩):=by rw [←h5];exact h6
 have hj:rs.set j (g b)=rs:=by
  have hjl:j<rs.length:=by grind
  rw [←hf b,←hv]
  rw [List.getElem?_eq_getElem hjl] at hi
  simp at hi
  rw [←hi,List.set_getElem_self]
 refine k b a w ⟨M,h1,h2,?_,by rw [hj];exact h4⟩
 intro t q hq
 simp only [List.lookup] at hq
 by_cases ht:t=s
 · grind
 · exact Nz
theorem ND {β:Type} {f:β→List Pr} {sz:Nat} (hf:∀x,(f x).length=sz) {z:List Pr} (hz:z.length=sz) {l:List β} (hm:m=l.length-((i:Nat):Int).toNat) (h:i≤l.length):
  ((l.map f).flatten++qs).take (((i:Nat):Int).toNat*sz)++(List.replicate m z).flatten++((l.map f).flatten++qs).drop (((i:Nat):Int).toNat*sz+m*sz)=((l.take i).map f).flatten++(List.replicate (l.length-i) z).flatten++qs:=by
 rw [Int.toNat_natCast] at hm ⊢;subst hm
 have hl2:∀r∈(l.take i).map f,r.length=sz:=Bh hf
 have e1:i*sz+(l.length-i)*sz=((l.map f).flatten).length:=by rw [Cv (Bh hf),List.length_map,←Nat.add_mul];congr 1;omega
 have e2:(l.map f).flatten=((l.take i).map f).flatten++((l.drop i).map f).flatten:=by rw [←List.flatten_append,←List.map_append,List.take_append_drop]
 have e3:(((l.take i).map f).flatten).length=i*sz:=by rw [Cv hl2,List.length_map,List.length_take];congr 1;omega
 rw [e1,List.drop_left]
 congr 2
 rw [e2,List.append_assoc,←e3,List.take_left]
end
section
variable {P:Program} {L:Lg P} {n:Fm} {fz:Nat} {E:Env} {M0:Av} {w0:World} {S:Nat→Prop} {rs:List Ay} {o:Oper}
def BX (e:TypeId) (sz:Nat) (rows:List (List Pr)) (v:Value):Ay where
 blk:=match v with| .slice (some a) _ _=>some a.block|_=>none
 new:=true
 h M w:=(rows=[]∧v= .slice none 0 0)∨(HJ e sz rows v).h M w
 st M w M' w' he hk h:=h.imp id fun h=>(HJ e sz rows v).st M w M' w' he hk h
theorem Tr.Rh {Q:Exit→Act→World→Prop} {c:Code} (e:TypeId) (sz:Nat) (k:Tr L n E (Hp M0 w0 S (BX e sz [] (.slice none 0 0)::rs)) c Q):Tr L n E (Hp M0 w0 S rs) c Q:=
 Tr.conv (fun _ _ ⟨M,h1,h2,h3,h4⟩=>⟨M,h1,h2,h3,A8.Jm h4 (r:=BX e sz [] (.slice none 0 0)) rfl (Or.inl ⟨rfl,rfl⟩)⟩) k
theorem dm {ty:TypeId} {sz bytes:Nat} {u:Value} (ht:P.underlying t=some (.slice e)) (hz:Az P e=some sz) (hby:Br P e=some bytes) (D8:BM P e=some zs) (hzl:zs.length=sz) (hone:zs.all (·.oneCell')=true) (hsz:0<sz) (h:A8 M0 w0 S rs M w) (hj:rs[j]? =some (BX e sz rows v)) (hl:∀r∈rows,r.length=sz) (hu:(slice sz rows').h M w u) (hpos:0<rows'.length) (Gc:rows.length+rows'.length≤maxLen) (hfit:(rows.length+rows'.length)*bytes≤140737488355328):
  ∃v' w' M',(Builtin.append_ #[t,t] ty #[v,u]).run P w= .ok v' w'∧(lens (rows.length+rows'.length)).h M' w' v'∧Ext M w M' w'∧A8 M0 w0 S (rs.set j (BX e sz (rows++rows') v')) M' w':=by
 have hjl:j<rs.length:=by grind
 rcases (h.hold _ (List.mem_of_getElem? hj)).1 with ⟨rfl,rfl⟩|AAf
 ·
  have h1:=h.Cw (r':=Bo) hj rfl rfl trivial
  have j5:(rs.set j Bo)[j]? =some Bo:=List.getElem?_set_self hjl
  obtain ⟨v',w',M',hrun,h2,h3,h4⟩:=u6 (ty:=ty) ht hz hby D8 hzl hone hsz h1 j5 hu hpos Pz Py
  rw [List.set_set] at h4
  have h5:=h4.Cw (r':=BX e sz ([]++rows') v') (List.getElem?_set_self hjl) rfl rfl (.inr (h4.hold _ (List.mem_of_getElem? (List.getElem?_set_self hjl))).1)
  rw [List.set_set] at h5
  exact ⟨v',w',M',hrun,by simpa using h2,h3,h5⟩
 ·
  obtain ⟨b,cap,spare,rfl,hnc,hcm,hsp,hcr⟩:=AAf
  have hC:=h.Cw (r':=AE true b e (rows.flatten++spare.map is)) hj rfl rfl hcr
  have hjC:(rs.set j (AE true b e (rows.flatten++spare.map is)))[j]? =some (AE true b e (rows.flatten++spare.map is)):=List.getElem?_set_self hjl
  obtain ⟨⟨hMb,cs,ym,hcs,mL⟩,hbb⟩:=hC.hold _ (List.mem_of_getElem? hjC)
  have hfl:=Cv hl
  have hcl:=hcs.length
  rw [List.length_append,hfl,List.length_map,hsp,←Nat.add_mul,show rows.length+(cap-rows.length)=cap by omega] at hcl
  unfold Az at hz
  unfold Br at hby
  unfold BM at D8
  cases hi:P.info? e with
  |none=>rw [hi] at hz;cases hz
  |some i=>
   rw [hi] at hz hby D8
   simp only [Option.map_some,Option.some.injEq,Option.map_eq_some_iff] at hz hby D8
   obtain ⟨z,Wg,D8⟩:=D8
   have dF:z.cells.size=sz:=by rw [←hzl,←D8];simp
   obtain ⟨A',c',rfl,hmc,ZQ,hA',HD⟩:=hu
   have Ti:(slice sz rows').h M w (.slice A' rows'.length c'):=⟨A',c',rfl,hmc,ZQ,hA',HD⟩
   obtain ⟨Tq,rfl⟩:∃Tq,A'=some Tq:=by
    obtain ⟨_,b,hb,_⟩:=HD 0 _ (List.getElem?_eq_getElem hpos)
    exact ⟨b,hb⟩
   obtain ⟨news,T3,hcell⟩:=GC hsz Ti
   have ZZ:=T3.1
   have hnews:=T3.hl hsz
   have hT:HL M w rows.flatten (cs.take (rows.length*sz)):=by
    have:=hcs.take (rows.length*sz)
    rwa [←hfl,List.take_left,hfl] at this
   have hne:(.slice (some ⟨b,0,none⟩) (rows++rows').length cap:Value)= .slice (some ⟨b,0,none⟩) (rows.length+rows'.length) cap:=by rw [List.length_append]
   by_cases hroom:rows.length+rows'.length≤cap
   ·
    have hle:(rows.length+rows'.length)*sz≤cap*sz:=Nat.mul_le_mul_right sz hroom
    rw [Nat.add_mul] at hle
    have hrun:=run_append_room (P:=P) (w:=w) t ty e i ht hi b rows.length cap cs.toArray ym Tq rows'.length c' news (by rw [hz];exact ZZ) (fun k u hk=>(hcell k u hk).1) T3.2.1 hroom (by rw [hz,ZZ];simp;omega)
    rw [hz,ZZ] at hrun
    have hD:HL M w ((spare.drop (rows'.length*sz)).map is) (cs.drop (rows.length*sz+rows'.length*sz)):=by
     have:=hcs.drop (rows.length*sz+rows'.length*sz)
     have e1:(rows.flatten++spare.map is).drop (rows.length*sz+rows'.length*sz)=(spare.drop (rows'.length*sz)).map is:=by rw [←hfl,←List.drop_drop,List.drop_left,List.map_drop]
     rwa [e1] at this
    obtain ⟨hW,hX⟩:=A8.write (qs:=rows.flatten++rows'.flatten++(spare.drop (rows'.length*sz)).map is) (cs:=cs.take (rows.length*sz)++news++cs.drop (rows.length*sz+rows'.length*sz)) hC hjC ((hT.app hnews).app hD) (fun c hc=>by
     simp only [List.mem_append] at hc
     rcases hc with (hc|hc)|hc
     · grind
     · exact T3.2.1 c hc
     · exact mL c (List.mem_of_mem_drop hc))
    rw [List.set_set] at hW
    refine ⟨_,_,M,hrun,⟨_,_,rfl⟩,hX,?_⟩
    have hW2 := hW.Cw (r' := BX e sz (rows ++ rows') (.slice (some ⟨b, 0, none⟩) (rows.length + rows'.length) cap)) (List.getElem?_set_self hjl) rfl rfl (.inr ⟨b, cap, spare.drop (rows'.length * sz), hne.symm, by rw [List.length_append]; exact hroom, hcm, by
     rw [List.length_drop,hsp,List.length_append,←Nat.sub_mul];congr 1;omega,by
     rw [List.flatten_append];exact (hW.hold _ (List.mem_of_getElem? (List.getElem?_set_self hjl))).1⟩)
    rw [List.set_set] at hW2
    exact hW2
   ·
    have hg:cap<rows.length+rows'.length:=by omega
    have holds:∀k u,(cs.take (rows.length*sz))[k]? =some u→w.cell? ((⟨b,0,none⟩:Addr).add k)=some u:=by
     intro k u hk
     have hk2:cs[k]? =some u:=by grind
     rw [Ff]
     simp [World.cell?,ym,hk2]
    have hto:(cs.take (rows.length*sz)).length=rows.length*sz:=by rw [List.length_take,hcl];exact Nat.min_eq_left (Nat.mul_le_mul_right sz hnc)
    have hrun:=run_append_grow (P:=P) (w:=w) t ty e i z ht hi Wg ⟨b,0,none⟩ rows.length cap (cs.take (rows.length*sz)) (by rw [hz];exact hto) holds Tq rows'.length c' news (by rw [hz];exact ZZ) (fun k u hk=>(hcell k u hk).1) hg Pt (by rw [hby];exact growslice_fits hg hfit)
    generalize hcap:grownCap w (rows.length+rows'.length) cap e=cap' at hrun
    have hge:rows.length+rows'.length≤cap':=by rw [←hcap];exact grownCap_ge _ _ _ _
    have hle:cap'≤maxLen:=by rw [←hcap];exact grownCap_le_maxLen _ _ _ _ Gc
    generalize TD:Builtin.zeroCells z.cells (cap'-(rows.length+rows'.length))=zc at hrun
    have hzs:zc.size=(cap'-(rows.length+rows'.length))*sz:=by rw [←TD,size_zeroCells,dF]
    have hzo:∀c∈zc.toList,c.oneCell'=true:=by rw [←TD];exact EZ D8 hone
    generalize AAg:((cs.take (rows.length*sz)).toArray++news.toArray++zc)=arr at hrun
    have IU:arr.toList=cs.take (rows.length*sz)++news++zc.toList:=by rw [←AAg];simp
    have hb:Below w.heap.size w (w.drew.alloc (.cells arr e)):=((Below.refl _ _).drew).alloc (Nat.le_refl _) _
    have h2:=Ext.below (M:=M) hb
    have Eo:Ext M w (fun b o=>M b o∨b=w.heap.size) (w.drew.alloc (.cells arr e)):=by
     refine ⟨h2.size,fun a v hc hm=>⟨fun hx=> ?_,(h2.keep a v hc hm).2⟩,fun b o ho hp hm=>⟨fun hx=> ?_,(h2.obj b o ho hp hm).2⟩⟩
     ·
      rcases hx with hx|hx
      · exact hm hx
      · exact Ew
     · grind
    have hs1:(w.drew.alloc (.cells arr e)).heap.size=w.heap.size+1:=by simp
    refine ⟨_,_,fun b o=>M b o∨b=w.heap.size,hrun,⟨_,_,rfl⟩,Eo,?_⟩
    refine h.replace hj Eo hb.os hb.tape hb.output (fun k hk _=>hb.block k hk) rfl (fun b o hm _=> .inl hm) (fun b o hx=> ?_) ?_ rfl (fun b hbk=> ?_)
    ·
     rcases hx with hx|hx
     · exact Kw
     · omega
    ·
     refine .inr ⟨w.heap.size,cap',zc.toList,by rw [List.length_append],by rw [List.length_append];exact hge,hle,by rw [List.length_append];simpa using hzs,fun o=> .inr rfl,arr.toList,?_,?_,?_⟩
     ·
      have hh:(w.drew.alloc (.cells arr e)).heap[w.heap.size]? =some (.cells arr e (0,0)):=heap_alloc_new w.drew _
      rw [hh]
     · rw [IU,List.flatten_append];exact ((hT.st Eo).app ((T3.st Eo).hl hsz)).app (J3 _ _ _)
     ·
      intro c hc
      rw [IU] at hc
      simp only [List.mem_append] at hc
      rcases hc with (hc|hc)|hc
      · grind
      · exact T3.2.1 c hc
      · exact hzo c hc
    ·
     have En:some w.heap.size=some b:=hbk
     injection En with e1
     subst e1
     exact ⟨by rw [hs1];omega,.inr (Nat.le_refl _)⟩
theorem Ex {y:Operand} {sz bytes:Nat} (hg:o.guard=none) (hd:o.dst=some d) (hn:d<n) (ho:o.op= .call { callee:= .builtin .append,args:= #[x,y],argTypes:= #[t,t] }) (ht:P.underlying t=some (.slice e)) (hz:Az P e=some sz) (hby:Br P e=some bytes) (D8:BM P e=some zs) (hzl:zs.length=sz) (hone:zs.all (·.oneCell')=true) (hsz:0<sz) (hx:VL E x (Ag v p)) (hy:VL E y (slice sz rows')) (hl:∀r∈rows,r.length=sz) (hpos:0<rows'.length) (Gc:rows.length+rows'.length≤maxLen) (hfit:(rows.length+rows'.length)*bytes≤140737488355328):DY P M0 w0 S n j (SR.c (BX e sz rows v)) ⟨d,BX e sz (rows++rows')⟩ o E (lens (rows.length+rows'.length)):=by
 refine ⟨hg,fun M w a rs Uz he hI hj=> ?_⟩
 have h1:a.eval x=v:=(hx.ev he Da).1
 have h2:=hy.ev he Da
 obtain ⟨v',w',M',hrun,h3,h4,h5⟩:=dm (ty:=o.type) ht hz hby D8 hzl hone hsz hI hj hl h2 hpos Gc hfit
 have Ep:(execOp a.eval o).run P w= .ok (.value v') w':=by simp [execOp,ho,resolve,invoke,builtin,h1,hrun]
 rw [Ep]
 refine ⟨M',h3,h4,?_⟩
 have:(SR.at_ (a.put o.dst v') ⟨d,BX e sz (rows++rows')⟩)=BX e sz (rows++rows') v':=by unfold SR.at_ Slot.val;dsimp only;rw [hd,B1 Hf]
 rw [this];exact h5
theorem A8.gV {sz:Nat} (h:A8 M0 w0 S rs M w) (hj:rs[j]? =some (BX e sz rows v)) (hl:∀r∈rows,r.length=sz):
  ∃M',Ext M w M' w∧A8 M0 w0 S (rs.set j (Ax e sz v)) M' w∧(slice sz rows).h M' w v:=by
 have hjl:j<rs.length:=by grind
 rcases (h.hold _ (List.mem_of_getElem? hj)).1 with ⟨rfl,rfl⟩|AAf
 · exact ⟨M,Ext.refl _ _,h.Cw hj rfl rfl U8,AM sz M w _ rfl⟩
 ·
  obtain ⟨b,cap,spare,rfl,hnc,hcm,hsp,hcr⟩:=AAf
  have hC:=h.Cw (r':=AE true b e (rows.flatten++spare.map is)) hj rfl rfl hcr
  obtain ⟨M',h1,h2,h3⟩:=A8.frz hC (List.getElem?_set_self hjl) hl hnc hcm (by rw [List.length_map];exact hsp)
  rw [List.set_set] at h2
  exact ⟨M',h1,h2,h3⟩
end
section
variable {P:Program} {L:Lg P} {n:Fm} {fz:Nat} {E:Env} {M0:Av} {w0:World} {S:Nat→Prop} {rs:List Ay} {o:Oper} {ops:Array Oper} {r:List Oper}
def Za (P:Program) (f:FuncId) (args:List Pr) (res:Pr) (r:Ay) (r':Ay) (r2:Ay):Prop:=Entry P f∧∀M0 w0 S rs M w vs,A8 M0 w0 S (r::r2::rs) M w→HL M w args vs→
 Calls P f vs.toArray w fun e w'=>∃v M',e= .returned v∧res.h M' w' v∧Ext M w M' w'∧A8 M0 w0 S (r'::r2::rs) M' w'
theorem Za.of {g : Func} {c : Code} {res : Pr} {R R' R2 : Ay} (hf : P.funcs[f]? = some g) (hb : g.body = some c) (hname : (g.name == "runtime.NumGoroutine") = false) (hlen : ps.length ≤ g.ntmps) (h : ∀ M0 w0 S rs M1 w1, Tr (Yr P) g.ntmps (L2 0 ps) (Hp M0 w0 S (R :: Ac M1 w1 :: R2 :: rs)) c (bodyPost P g (Lf M0 w0 S (R2 :: rs) M1 w1 res (fun _ => R')))) : Za P f ps res R R' R2 := by
 refine ⟨⟨g,hf,hname,by rw [hb];rfl⟩,fun M0 w0 S rs M w vs hI hv=> ?_⟩
 refine calls_of_wp hf hb (h M0 w0 S rs M w _ _ ⟨M,?_,rfl,F_ hv,?_⟩)
 ·
  have:=hv.length
  simp [this];omega
 · exact ZG
theorem TO.dn {Q:Exit→Act→World→Prop} {xs:Array Operand} {res:Pr} (j i:Nat) {R0 R1 R2:Ay} (hj:rs[j]? =some R0) (hi:rs[i]? =some R2) (hij:i≠j) (hg:o.guard=none) (hd:o.dst=some d) (hn:d<n) (ho:o.op= .call { callee:= .value (.func f),args:=xs,argTypes:=ts }) (hf:Za P f ps res R0 R1 R2) (hv:IB E xs.toList ps) (k:TO P n ops r ((d,res)::E) (Hp M0 w0 S (rs.set j R1)) Q):TO P n ops (o::r) E (Hp M0 w0 S rs) Q:=
 TO.ZM hg fun K M w a hsz hdf he hI hK=>by
  have hI:A8 M0 w0 S rs M w:=hI
  have h1:=IB.GU (o:=o) (CR he) (xs:=xs.toList) (fun x hx=>by simp [ho,Op.operands,Call.operands];exact .inr Gy) hv
  have hjl:j<rs.length:=by rcases Nat.lt_or_ge j rs.length with h|h;exact h;rw [List.getElem?_eq_none h] at hj;cases hj
  obtain ⟨m,hm⟩:∃m,(rs.eraseIdx j)[m]? =some R2:=by
   by_cases hlt:i<j
   · exact ⟨i,by rw [List.getElem?_eraseIdx,if_pos hlt];exact hi⟩
   · exact ⟨i-1,by rw [List.getElem?_eraseIdx,if_neg AA,show i-1+1=i by omega];exact hi⟩
  have hp:rs.Perm (R0::R2::(rs.eraseIdx j).eraseIdx m):=(EL hj).trans ((EL hm).cons _)
  have hp':(R1::R2::(rs.eraseIdx j).eraseIdx m).Perm (rs.set j R1):=((EL hm).symm.cons _).trans (J4 hjl)
  have hgv:D7 P M0 w0 S o a M w res j (SR.c R1) rs ((execOp a.eval o).run P w):=by
   have hrun:(execOp a.eval o).run P w= .ok (.enter f (xs.toList.map a.eval).toArray) w:=by
    simp [execOp,ho,resolve,Deferred.ofValue,Act.eval,invoke,EJ hf.1,IW xs]
   rw [hrun]
   refine (hf.2 M0 w0 S _ M w _ (A8.perm hp hI) h1).mono ?_
   rintro e w' ⟨v,M',rfl,h2,h3,h4⟩
   exact ⟨v,M',rfl,h2,h3,A8.perm hp' h4⟩
  refine Kz hgv fun v w' M' hv hx Tp=>hK _ _ _ _ k ⟨M',by rw [B4];exact hsz,by rw [put_defers];exact hdf,?_,Tp⟩
  intro s q hq
  simp only [List.lookup] at hq
  by_cases hs:s=d
  · exact cR
  · rw [show (s==d)=false by simpa using hs] at hq;rw [hd,BQ hs];exact q.st _ _ _ _ _ hx (he s q hq)
end
abbrev Dt (k:IntKind):Pr:=Cp.ex fun i:Int=>is (.int k i)
theorem Cf (k:IntKind) (i:Int):Pr.le (is (.int k i)) (Dt k):=fun _ _ _ h=>⟨i,h⟩
section
variable {P:Program} {L:Lg P} {I:Cc} {o:Oper} {E:Env}
theorem QB {op:BinOp} {u:TypeId} {y:Operand} {k:IntKind} (hop:(op== .xor||op== .or)=true) (ho:o.op= .binOp op t x y u) (hx:VL E x (Dt k)) (hy:VL E y (Dt k)):Ab P I o E (Dt k):=
 Ab.same fun M w a he _=>by
  obtain ⟨m,h1⟩:=hx.ev he Ap
  obtain ⟨n,h2⟩:=hy.ev he Ap
  have h1:a.eval x= .int k m:=h1
  have h2:a.eval y= .int k n:=h2
  cases op<;>simp at hop<;>exact ⟨_,by simp [execOp,ho,h1,h2,eqGuard,binOp,Op.intBits];rfl,_,rfl⟩
theorem Zb {op:BinOp} {u:TypeId} {y:Operand} {k k':IntKind} {c:Int} (hop:(op== .shl||op== .shr)=true) (ho:o.op= .binOp op t x y u) (hx:VL E x (Dt k)) (hy:VL E y (is (.int k' c))) (hc:0≤c):Ab P I o E (Dt k):=
 Ab.same fun M w a he _=>by
  obtain ⟨m,h1⟩:=hx.ev he Ap
  have h1:a.eval x= .int k m:=h1
  have h2:a.eval y= .int k' c:=hy.ev he Ap
  have hn:¬c<0:=by omega
  cases op<;>simp at hop<;>exact ⟨_,by simp [execOp,ho,h1,h2,eqGuard,binOp,Op.shift,hn];rfl,_,rfl⟩
theorem vD {u:TypeId} {y:Operand} {k:IntKind} (ho:o.op= .binOp .add t x y u) (hx:VL E x (Dt k)) (hy:VL E y (Dt k)):Ab P I o E (Dt k):=
 Ab.same fun M w a he _=>by
  obtain ⟨m,h1⟩:=hx.ev he Ap
  obtain ⟨n,h2⟩:=hy.ev he Ap
  have h1:a.eval x= .int k m:=h1
  have h2:a.eval y= .int k n:=h2
  exact ⟨_,by simp [execOp,ho,h1,h2,eqGuard,binOp,Op.intArith];rfl,_,rfl⟩
theorem mM {u:TypeId} {y:Operand} {m:Int} (ho:o.op= .binOp .and t x y u) (hx:VL E x (Dt .u64)) (hy:VL E y (is (.int .u64 m))) (h0:0≤m) (h1m:m<18446744073709551616):Ab P I o E (Cp.ex fun r:Int=>fact (0≤r∧r≤m) (is (.int .u64 r))):=
 Ab.same fun M w a he _=>by
  obtain ⟨n,h1⟩:=hx.ev he Ap
  have h1:a.eval x= .int .u64 n:=h1
  have h2:a.eval y= .int .u64 m:=hy.ev he Ap
  have hm:(BitVec.ofInt 64 m).toNat=m.toNat:=by
   rw [BitVec.toNat_ofInt];omega
  have hle:(BitVec.ofInt 64 n&&&BitVec.ofInt 64 m).toNat≤m.toNat:=by
   rw [BitVec.toNat_and,hm];exact Nat.and_le_right
  have hw:IntKind.u64.wrap (((BitVec.ofInt 64 n&&&BitVec.ofInt 64 m).toNat:Nat):Int)=(((BitVec.ofInt 64 n&&&BitVec.ofInt 64 m).toNat:Nat):Int):=IntWalk.u64_in _ ⟨by omega,by omega⟩
  refine ⟨_,by simp [execOp,ho,h1,h2,eqGuard,binOp,Op.intBits];rfl,(((BitVec.ofInt 64 n&&&BitVec.ofInt 64 m).toNat:Nat):Int),⟨by omega,by omega⟩,?_⟩
  exact congrArg (Value.int .u64) hw
theorem vE {u:TypeId} {y:Operand} {k:Int} {b:Int} (ho:o.op= .binOp .shl t x y u) (hx:VL E x (is (.int .u64 1))) (hy:VL E y (is (.int .i64 k))) (h0:0≤k) (h8:k≤8) (hb:2 ^ k.toNat≤b):Ab P I o E (Cp.ex fun r:Int=>fact (1≤r∧r≤b) (is (.int .u64 r))):=
 Ab.same fun M w a he _=>by
  have h1:a.eval x= .int .u64 1:=hx.ev he Ap
  have h2:a.eval y= .int .i64 k:=hy.ev he Ap
  have hn:¬k<0:=by omega
  have hmin:min k.toNat 64=k.toNat:=by omega
  have e:((2 ^ k.toNat:Nat):Int)=(2:Int) ^ k.toNat:=Int.natCast_pow 2 k.toNat
  have ALT:1≤2 ^ k.toNat:=Nat.one_le_two_pow
  have ALU:2 ^ k.toNat≤256:=Nat.le_trans (Nat.pow_le_pow_right (n:=2) AA (show k.toNat≤8 by omega)) AD
  have Mj:(1:Int)≤2 ^ k.toNat:=by rw [←e];omega
  have dw:(2:Int) ^ k.toNat≤256:=by rw [←e];omega
  have hw:IntKind.u64.wrap (2 ^ k.toNat)=2 ^ k.toNat:=IntWalk.u64_in _ ⟨by omega,by omega⟩
  refine ⟨.int .u64 (IntKind.u64.wrap (1*2 ^ (min k.toNat IntKind.u64.bits))),?_,2 ^ k.toNat,⟨Mj,hb⟩,?_⟩
  ·
   simp only [execOp,ho,h1,h2]
   simp [eqGuard,binOp,Op.shift,hn]
   try rw [show min k.toNat IntKind.u64.bits=k.toNat from hmin]
  ·
   show Value.int _ _=Value.int _ _
   rw [show min k.toNat IntKind.u64.bits=k.toNat from hmin,Int.one_mul,hw]
end
theorem Fin.L8 {fz:Nat} {E:Env} {M0:Av} {S:Nat→Prop} {g:Func} {M1:Av} {w1:World} {r:Ay} (hr:g.results= #[]):Fin ⟨fz,[]⟩ E (Hp M0 w0 S (r::Ac M1 w1::rs)) (bodyPost P g (Lf M0 w0 S rs M1 w1 Ey (fun _=>r))) .ret:=by
 rintro a w ⟨M,_,hd,he,hi⟩
 obtain ⟨h1,h2⟩:=ZT hi
 exact ⟨hd,_,results0 hr,_,M,rfl,rfl,h1,h2⟩
theorem T4 {β:Type} {f:β→List Pr} {l:List β} {sz:Nat} (hf:∀x,(f x).length=sz) {i:Int} (h:i.toNat<l.length):((((l.map f).flatten++qs).drop (0+i.toNat*sz)).take sz)=f (l[i.toNat]'h):=by
 rw [Nat.zero_add];exact mK hf (List.getElem?_eq_getElem h)
theorem BL {β:Type} {f:β→List Pr} {sz:Nat} (hf:∀x,(f x).length=sz) {l:List β} {i:Int} {x:β} (h:i.toNat<l.length):((l.map f).flatten++qs).take (0+i.toNat*sz)++f x++((l.map f).flatten++qs).drop (0+i.toNat*sz+sz)=((l.set i.toNat x).map f).flatten++qs:=by
 rw [Nat.zero_add];exact OI hf h
theorem Ri {β:Type} {l:List β} {i j:Int} (hi:i.toNat<l.length) (hj:j.toNat<l.length):((l.set i.toNat (l[j.toNat]'hj)).set j.toNat (l[i.toNat]'hi)).Perm l:=List.set_set_perm hi hj
section
variable {P:Program} {L:Lg P} {n:Fm} {fz:Nat} {E:Env} {M0:Av} {w0:World} {S:Nat→Prop} {rs:List Ay} {o:Oper} {β:Type} {b:Nat} {e:TypeId} {f:β→List Pr} {qs:List Pr} {Φ:List β→Prop}
def C5 (b:Nat) (e:TypeId) (f:β→List Pr) (Φ:List β→Prop) (qs:List Pr):Ay where
 blk:=some b
 new:=true
 h M w:=∃st:List β,Φ st∧(AE true b e ((st.map f).flatten++qs)).h M w
 st M w M' w' he hk h:=let ⟨st,h1,h2⟩:=h;⟨st,h1,(AE true b e ((st.map f).flatten++qs)).st M w M' w' he hk h2⟩
theorem St.Eg (j:Nat) (hj:rs[j]? =some (C5 b e f Φ qs)) (h:St n E (Hp M0 w0 S rs) a w):
  ∃st:List β,Φ st∧St n E (Hp M0 w0 S (rs.set j (AE true b e ((st.map f).flatten++qs)))) a w:=by
 obtain ⟨M,h1,h2,h3,h4⟩:=h
 have h4:A8 M0 w0 S rs M w:=h4
 obtain ⟨st,hp,h8⟩:=(h4.hold _ (List.mem_of_getElem? hj)).1
 exact ⟨st,hp,M,h1,h2,h3,h4.Cw hj rfl rfl h8⟩
theorem Tr.Eg {Q:Exit→Act→World→Prop} {c:Code} (j:Nat) (hj:rs[j]? =some (C5 b e f Φ qs))
  (k:∀st:List β,Φ st→Tr L n E (Hp M0 w0 S (rs.set j (AE true b e ((st.map f).flatten++qs)))) c Q):Tr L n E (Hp M0 w0 S rs) c Q:=
 fun a w hs=>let ⟨st,h1,h2⟩:=hs.Eg j hj;k st h1 a w h2
theorem Fin.Eg {Q:Exit→Act→World→Prop} {x:Exit} (j:Nat) (hj:rs[j]? =some (C5 b e f Φ qs))
  (k:∀st:List β,Φ st→Fin n E (Hp M0 w0 S (rs.set j (AE true b e ((st.map f).flatten++qs)))) Q x):Fin n E (Hp M0 w0 S rs) Q x:=
 fun a w hs=>let ⟨st,h1,h2⟩:=hs.Eg j hj;k st h1 a w h2
theorem TO.Eg {Q:Exit→Act→World→Prop} {r:List Oper} (j:Nat) (hj:rs[j]? =some (C5 b e f Φ qs)) (k:∀st:List β,Φ st→TO P n ops r E (Hp M0 w0 S (rs.set j (AE true b e ((st.map f).flatten++qs)))) Q):TO P n ops r E (Hp M0 w0 S rs) Q:=
 fun m hl a w hs=>let ⟨st,h1,h2⟩:=hs.Eg j hj;k st h1 m hl a w h2
theorem St.C6 {st:List β} (j:Nat) (hj:rs[j]? =some (AE true b e ((st.map f).flatten++qs))) (hp:Φ st) (h:St n E (Hp M0 w0 S rs) a w):St n E (Hp M0 w0 S (rs.set j (C5 b e f Φ qs))) a w:=by
 obtain ⟨M,h1,h2,h3,h4⟩:=h
 have h4:A8 M0 w0 S rs M w:=h4
 exact ⟨M,h1,h2,h3,h4.Cw hj rfl rfl ⟨st,hp,(h4.hold _ (List.mem_of_getElem? hj)).1⟩⟩
theorem Tr.C6 {Q:Exit→Act→World→Prop} {c:Code} {st:List β} (Φ:List β→Prop) (j:Nat) (hj:rs[j]? =some (AE true b e ((st.map f).flatten++qs))) (hp:Φ st)
  (k:Tr L n E (Hp M0 w0 S (rs.set j (C5 b e f Φ qs))) c Q):Tr L n E (Hp M0 w0 S rs) c Q:=Tr.conv (fun _ _ hs=>hs.C6 j hj hp) k
theorem Fin.C6 {Q:Exit→Act→World→Prop} {x:Exit} {st:List β} (Φ:List β→Prop) (j:Nat) (hj:rs[j]? =some (AE true b e ((st.map f).flatten++qs))) (hp:Φ st)
  (k:Fin n E (Hp M0 w0 S (rs.set j (C5 b e f Φ qs))) Q x):Fin n E (Hp M0 w0 S rs) Q x:=Fin.conv (fun _ _ hs=>hs.C6 j hj hp) k
instance (priority:=300) AEY (b:Bool) (p:Prop) [h:FM b false p]:FM (!b) true p:=⟨fun e=>h.Gp (by simpa using e)⟩
instance (priority:=300) AEZ (b:Bool) (p:Prop) [h:FM b true p]:FM (!b) false p:=⟨fun e=>h.Gp (by simpa using e)⟩
end
end Cp
namespace Cp
open Go.Sort
variable {k:Nat}
section
variable {β:Type} [Inhabited β] {c:β×β→Int} {st:List β} {a b i j:Int}
def Ct (c:β×β→Int) (x y:β):Bool:=decide (c (x,y)<0)
theorem gx (h:i.toNat<st.length):st.toArray[i.toNat]! =st[i.toNat]:=by simp [h]
theorem sw (hi:i.toNat<st.length) (hj:j.toNat<st.length):((st.set i.toNat (st[j.toNat]'hj)).set j.toNat (st[i.toNat]'hi)).toArray=swp st.toArray i.toNat j.toNat:=by
 unfold swp
 rw [gx hi,gx hj]
 simp [Array.setIfInBounds_def,hi,hj]
omit [Inhabited β] in
theorem IG {x y:β} (h:c (x,y)<0):Ct c x y=true:=decide_eq_true h
omit [Inhabited β] in
theorem Jf {x y:β} (h:¬c (x,y)<0):Ct c x y=false:=decide_eq_false h
theorem AAh (h0:0≤a) (ha:a<j) {k:Int} (hk:k=j-1) (hj:j.toNat<st.length) (hj':k.toNat<st.length) (hc:c (st[j.toNat]'hj,st[k.toNat]'hj')<0):
  insInner (Ct c) a.toNat k.toNat ((st.set j.toNat (st[k.toNat]'hj')).set k.toNat (st[j.toNat]'hj)).toArray=insInner (Ct c) a.toNat j.toNat st.toArray:=by
 rw [sw hj hj']
 obtain ⟨m,hm⟩:∃m,j.toNat=m+1:=⟨j.toNat-1,by omega⟩
 have hk2:k.toNat=m:=by omega
 have e:Ct c (st.toArray[m+1]!) (st.toArray[m]!)=true:=by rw [←hm,←hk2,gx hj,gx hj'];exact IG hc
 rw [hm,hk2]
 conv=>rhs;rw [insInner]
 rw [if_pos (by rw [e];simp;omega)]
theorem gW (h0:0≤a) (h:¬a<j):st.toArray=insInner (Ct c) a.toNat j.toNat st.toArray:=by
 cases hm:j.toNat with
 |zero=>rfl
 |succ m=>rw [insInner,if_neg Bz]
theorem gX (h0:0≤a) (ha:a<j) {k:Int} (hk:k=j-1) (hj:j.toNat<st.length) (hj':k.toNat<st.length) (hc:¬c (st[j.toNat]'hj,st[k.toNat]'hj')<0):st.toArray=insInner (Ct c) a.toNat j.toNat st.toArray:=by
 obtain ⟨m,hm⟩:∃m,j.toNat=m+1:=⟨j.toNat-1,by omega⟩
 have hk2:k.toNat=m:=by omega
 have e:Ct c (st.toArray[m+1]!) (st.toArray[m]!)=false:=by rw [←hm,←hk2,gx hj,gx hj'];exact Jf hc
 rw [hm,insInner,if_neg Mv]
theorem dx {d:Array β} (h0:0≤i) (h:i<b):insOuter (Ct c) a.toNat b.toNat (i+1).toNat (insInner (Ct c) a.toNat i.toNat d)=insOuter (Ct c) a.toNat b.toNat i.toNat d:=by
 conv=>rhs;rw [insOuter]
 rw [if_pos AA,show (i+1).toNat=i.toNat+1 by omega]
theorem gY {d:Array β} (h0:0≤i) (h:¬i<b):insOuter (Ct c) a.toNat b.toNat i.toNat d=d:=by
 rw [insOuter,if_neg AA]
theorem Zc {d:Array β} (h0:0≤a):insOuter (Ct c) a.toNat b.toNat (a+1).toNat d=insertionSort (Ct c) d a.toNat b.toNat:=by
 unfold insertionSort;rw [show (a+1).toNat=a.toNat+1 by omega]
variable {hi F r:Int}
theorem mN {d:Array β} (h0:0≤r) (h:hi≤2*r+1):d=siftDown (Ct c) hi.toNat F.toNat r.toNat d:=by
 rw [siftDown,dif_pos AA]
theorem XJ {x y:Int} (h0:0≤r) (hF:0≤F) (h:¬hi≤2*r+1) (h2:¬2*r+1+1<hi) (hx:x=F+r) (hy:y=F+(2*r+1)) (hxl:x.toNat<st.length) (NF:y.toNat<st.length) (hc:¬c (st[x.toNat]'hxl,st[y.toNat]'NF)<0):
  st.toArray=siftDown (Ct c) hi.toNat F.toNat r.toNat st.toArray:=by
 have e:Ct c (st.toArray[F.toNat+r.toNat]!) (st.toArray[F.toNat+(2*r.toNat+1)]!)=false:=by
  rw [show F.toNat+r.toNat=x.toNat by omega,show F.toNat+(2*r.toNat+1)=y.toNat by omega,gx hxl,gx NF];exact Jf hc
 rw [siftDown,dif_neg AA,if_neg Bz,if_pos (by rw [e];rfl)]
theorem gZ {x y:Int} (h0:0≤r) (hF:0≤F) (h:¬hi≤2*r+1) (h2:¬2*r+1+1<hi) (hx:x=F+r) (hy:y=F+(2*r+1)) (hxl:x.toNat<st.length) (NF:y.toNat<st.length) (hc:c (st[x.toNat]'hxl,st[y.toNat]'NF)<0):
  siftDown (Ct c) hi.toNat F.toNat (2*r+1).toNat ((st.set x.toNat (st[y.toNat]'NF)).set y.toNat (st[x.toNat]'hxl)).toArray=siftDown (Ct c) hi.toNat F.toNat r.toNat st.toArray:=by
 have e:Ct c (st.toArray[F.toNat+r.toNat]!) (st.toArray[F.toNat+(2*r.toNat+1)]!)=true:=by
  rw [show F.toNat+r.toNat=x.toNat by omega,show F.toNat+(2*r.toNat+1)=y.toNat by omega,gx hxl,gx NF];exact IG hc
 rw [sw hxl NF]
 conv=>rhs;rw [siftDown]
 rw [dif_neg AA,if_neg Bz,if_neg Mv]
 rw [show (2*r+1).toNat=2*r.toNat+1 by omega,show F.toNat+r.toNat=x.toNat by omega,show F.toNat+(2*r.toNat+1)=y.toNat by omega]
theorem XK {x y u v:Int} (h0:0≤r) (hF:0≤F) (h:¬hi≤2*r+1) (hu:u=F+(2*r+1)) (hv:v=F+(2*r+1)+1) (mO:u.toNat<st.length) (hvl:v.toNat<st.length) (h2:¬c (st[u.toNat]'mO,st[v.toNat]'hvl)<0)
  (hx:x=F+r) (hy:y=F+(2*r+1)) (hxl:x.toNat<st.length) (NF:y.toNat<st.length) (hc:¬c (st[x.toNat]'hxl,st[y.toNat]'NF)<0):st.toArray=siftDown (Ct c) hi.toNat F.toNat r.toNat st.toArray:=by
 have e:Ct c (st.toArray[F.toNat+r.toNat]!) (st.toArray[F.toNat+(2*r.toNat+1)]!)=false:=by
  rw [show F.toNat+r.toNat=x.toNat by omega,show F.toNat+(2*r.toNat+1)=y.toNat by omega,gx hxl,gx NF];exact Jf hc
 have e2:Ct c (st.toArray[F.toNat+(2*r.toNat+1)]!) (st.toArray[F.toNat+(2*r.toNat+1)+1]!)=false:=by
  rw [show F.toNat+(2*r.toNat+1)+1=v.toNat by omega,show F.toNat+(2*r.toNat+1)=u.toNat by omega,gx mO,gx hvl];exact Jf h2
 rw [siftDown,dif_neg AA,if_neg (by rw [e2];simp),if_pos (by rw [e];rfl)]
theorem ga {x y u v:Int} (h0:0≤r) (hF:0≤F) (h:¬hi≤2*r+1) (hu:u=F+(2*r+1)) (hv:v=F+(2*r+1)+1) (mO:u.toNat<st.length) (hvl:v.toNat<st.length) (h2:¬c (st[u.toNat]'mO,st[v.toNat]'hvl)<0)
  (hx:x=F+r) (hy:y=F+(2*r+1)) (hxl:x.toNat<st.length) (NF:y.toNat<st.length) (hc:c (st[x.toNat]'hxl,st[y.toNat]'NF)<0):
  siftDown (Ct c) hi.toNat F.toNat (2*r+1).toNat ((st.set x.toNat (st[y.toNat]'NF)).set y.toNat (st[x.toNat]'hxl)).toArray=siftDown (Ct c) hi.toNat F.toNat r.toNat st.toArray:=by
 have e:Ct c (st.toArray[F.toNat+r.toNat]!) (st.toArray[F.toNat+(2*r.toNat+1)]!)=true:=by
  rw [show F.toNat+r.toNat=x.toNat by omega,show F.toNat+(2*r.toNat+1)=y.toNat by omega,gx hxl,gx NF];exact IG hc
 have e2:Ct c (st.toArray[F.toNat+(2*r.toNat+1)]!) (st.toArray[F.toNat+(2*r.toNat+1)+1]!)=false:=by
  rw [show F.toNat+(2*r.toNat+1)+1=v.toNat by omega,show F.toNat+(2*r.toNat+1)=u.toNat by omega,gx mO,gx hvl];exact Jf h2
 rw [sw hxl NF]
 conv=>rhs;rw [siftDown]
 rw [dif_neg AA,if_neg (by rw [e2];simp),if_neg Mv]
 rw [show (2*r+1).toNat=2*r.toNat+1 by omega,show F.toNat+r.toNat=x.toNat by omega,show F.toNat+(2*r.toNat+1)=y.toNat by omega]
theorem Zd {x y u v:Int} (h0:0≤r) (hF:0≤F) (h:2*r+1+1<hi) (hu:u=F+(2*r+1)) (hv:v=F+(2*r+1)+1) (mO:u.toNat<st.length) (hvl:v.toNat<st.length) (h2:c (st[u.toNat]'mO,st[v.toNat]'hvl)<0)
  (hx:x=F+r) (hy:y=F+(2*r+1+1)) (hxl:x.toNat<st.length) (NF:y.toNat<st.length) (hc:¬c (st[x.toNat]'hxl,st[y.toNat]'NF)<0):st.toArray=siftDown (Ct c) hi.toNat F.toNat r.toNat st.toArray:=by
 have e:Ct c (st.toArray[F.toNat+r.toNat]!) (st.toArray[F.toNat+(2*r.toNat+2)]!)=false:=by
  rw [show F.toNat+r.toNat=x.toNat by omega,show F.toNat+(2*r.toNat+2)=y.toNat by omega,gx hxl,gx NF];exact Jf hc
 have e2:Ct c (st.toArray[F.toNat+(2*r.toNat+1)]!) (st.toArray[F.toNat+(2*r.toNat+1)+1]!)=true:=by
  rw [show F.toNat+(2*r.toNat+1)+1=v.toNat by omega,show F.toNat+(2*r.toNat+1)=u.toNat by omega,gx mO,gx hvl];exact IG h2
 rw [siftDown,dif_neg AA,if_pos (by rw [e2];simp;omega),if_pos (by rw [e];rfl)]
theorem mP {x y u v:Int} (h0:0≤r) (hF:0≤F) (h:2*r+1+1<hi) (hu:u=F+(2*r+1)) (hv:v=F+(2*r+1)+1) (mO:u.toNat<st.length) (hvl:v.toNat<st.length) (h2:c (st[u.toNat]'mO,st[v.toNat]'hvl)<0)
  (hx:x=F+r) (hy:y=F+(2*r+1+1)) (hxl:x.toNat<st.length) (NF:y.toNat<st.length) (hc:c (st[x.toNat]'hxl,st[y.toNat]'NF)<0):
  siftDown (Ct c) hi.toNat F.toNat (2*r+1+1).toNat ((st.set x.toNat (st[y.toNat]'NF)).set y.toNat (st[x.toNat]'hxl)).toArray=siftDown (Ct c) hi.toNat F.toNat r.toNat st.toArray:=by
 have e:Ct c (st.toArray[F.toNat+r.toNat]!) (st.toArray[F.toNat+(2*r.toNat+2)]!)=true:=by
  rw [show F.toNat+r.toNat=x.toNat by omega,show F.toNat+(2*r.toNat+2)=y.toNat by omega,gx hxl,gx NF];exact IG hc
 have e2:Ct c (st.toArray[F.toNat+(2*r.toNat+1)]!) (st.toArray[F.toNat+(2*r.toNat+1)+1]!)=true:=by
  rw [show F.toNat+(2*r.toNat+1)+1=v.toNat by omega,show F.toNat+(2*r.toNat+1)=u.toNat by omega,gx mO,gx hvl];exact IG h2
 rw [sw hxl NF]
 conv=>rhs;rw [siftDown]
 rw [dif_neg AA,if_pos (by rw [e2];simp;omega),if_neg Mv,dif_pos AA]
 rw [show (2*r+1+1).toNat=2*r.toNat+2 by omega,show F.toNat+r.toNat=x.toNat by omega,show F.toNat+(2*r.toNat+2)=y.toNat by omega]
theorem mQ {d:Array β} (h0:0≤i):heapBuild (Ct c) hi.toNat F.toNat (i-1+1).toNat (siftDown (Ct c) hi.toNat F.toNat i.toNat d)=heapBuild (Ct c) hi.toNat F.toNat (i+1).toNat d:=by
 rw [show (i+1).toNat=i.toNat+1 by omega,show (i-1+1).toNat=i.toNat by omega];rfl
theorem gb {d:Array β} (h0:¬0≤i):heapBuild (Ct c) hi.toNat F.toNat (i+1).toNat d=d:=by
 rw [show (i+1).toNat=0 by omega];rfl
theorem AAi {d:Array β} (h0:0≤i):heapPop (Ct c) F.toNat (i-1+1).toNat (siftDown (Ct c) i.toNat F.toNat (0:Int).toNat (swp d F.toNat (F.toNat+i.toNat)))=heapPop (Ct c) F.toNat (i+1).toNat d:=by
 rw [show (i+1).toNat=i.toNat+1 by omega,show (i-1+1).toNat=i.toNat by omega];rfl
theorem vF {d:Array β} (h0:¬0≤i):heapPop (Ct c) F.toNat (i+1).toNat d=d:=by
 rw [show (i+1).toNat=0 by omega];rfl
theorem gh (h0:0≤a) (hab:a≤b) (hb:b≤1000000):Go.IntKind.i64.wrap ((b-a-1).tdiv 2)=(((b.toNat-a.toNat-1)/2:Nat):Int):=by
 have:(b-a-1).tdiv 2=(((b.toNat-a.toNat-1)/2:Nat):Int):=by
  rcases Int.lt_or_le (b-a-1) 0 with h|h
  ·
   have e:b-a-1= -1:=by omega
   rw [e,show b.toNat-a.toNat-1=0 by omega];rfl
  · rw [Int.tdiv_eq_ediv_of_nonneg h];omega
 rw [this,Go.IntWalk.i64_in _ ⟨by omega,by omega⟩]
theorem heap_holds (hw:SWO (Ct c)) (d:Array β) (h0:0≤a) (hab:a≤b) (hb:b.toNat≤d.size):
  PermIn a.toNat b.toNat d (heapPop (Ct c) a.toNat (b-a).toNat (heapBuild (Ct c) (b-a).toNat a.toNat ((b.toNat-a.toNat-1)/2+1) d))∧SortedIn (Ct c) a.toNat b.toNat (heapPop (Ct c) a.toNat (b-a).toNat (heapBuild (Ct c) (b-a).toNat a.toNat ((b.toNat-a.toNat-1)/2+1) d)):=by
 have:=heapSort_holds hw d a.toNat b.toNat AA hb
 unfold heapSort at this
 rw [show (b-a).toNat=b.toNat-a.toNat by omega]
 exact this
theorem yp {n:Int} (h0:0≤n) (h1:n≤1000000):0≤Go.IntKind.i64.wrap (n.tdiv 4)∧4*Go.IntKind.i64.wrap (n.tdiv 4)≤n∧n<4*Go.IntKind.i64.wrap (n.tdiv 4)+4:=by
 have:n.tdiv 4=n/4:=Int.tdiv_eq_ediv_of_nonneg h0
 rw [this,Go.IntWalk.i64_in _ ⟨by omega,by omega⟩]
 omega
theorem mR {p:β→Bool} (h0:0≤i) (hij:i≤j) (hl:i.toNat<st.length) (hp:p (st[i.toNat]'hl)=true):scanUp p st.toArray j.toNat (i+1).toNat=scanUp p st.toArray j.toNat i.toNat:=by
 conv=>rhs;rw [scanUp]
 rw [if_pos (by rw [gx hl,hp];simp;omega),show (i+1).toNat=i.toNat+1 by omega]
theorem Rj {p:β→Bool} {d:Array β} (hj:0≤j) (hij:¬i≤j):scanUp p d j.toNat i.toNat=i.toNat:=by
 rw [scanUp,if_neg Bz]
theorem Rk {p:β→Bool} (hl:i.toNat<st.length) (hp:p (st[i.toNat]'hl)=false):scanUp p st.toArray j.toNat i.toNat=i.toNat:=by
 rw [scanUp,if_neg (by rw [gx hl,hp];simp)]
theorem mS {p:β→Bool} (h0:1≤i) (hij:i≤j) (hl:j.toNat<st.length) (hp:p (st[j.toNat]'hl)=true):scanDown p st.toArray i.toNat (j-1).toNat=scanDown p st.toArray i.toNat j.toNat:=by
 obtain ⟨m,hm⟩:∃m,j.toNat=m+1:=⟨j.toNat-1,by omega⟩
 have hp':p (st.toArray[m+1]!)=true:=by rw [←hm,gx hl];exact hp
 rw [show (j-1).toNat=m by omega,hm]
 conv=>rhs;rw [scanDown]
 rw [if_pos (by rw [hp'];simp;omega)]
theorem Rl {p:β→Bool} {d:Array β} (h0:0≤j) (hij:¬i≤j):scanDown p d i.toNat j.toNat=j.toNat:=by
 cases hm:j.toNat with
 |zero=>rfl
 |succ m=>rw [scanDown,if_neg Bz]
theorem Rm {p:β→Bool} (hl:j.toNat<st.length) (hp:p (st[j.toNat]'hl)=false):scanDown p st.toArray i.toNat j.toNat=j.toNat:=by
 cases hm:j.toNat with
 |zero=>rfl
 |succ m=>
  have hp':p (st.toArray[m+1]!)=false:=by rw [←hm,gx hl];exact hp
  rw [scanDown,if_neg (by rw [hp'];simp)]
abbrev pU (c:β×β→Int) (d:Array β) (a:Int):β→Bool:=fun x=>Ct c x d[a.toNat]!
abbrev pD (c:β×β→Int) (d:Array β) (a:Int):β→Bool:=fun x=> !Ct c x d[a.toNat]!
abbrev qU (c:β×β→Int) (d:Array β) (a:Int):β→Bool:=fun x=> !Ct c d[a.toNat]! x
abbrev qD (c:β×β→Int) (d:Array β) (a:Int):β→Bool:=fun x=>Ct c d[a.toNat]! x
theorem AEa (hi:i.toNat<st.length) (ha:a.toNat<st.length) (h:c (st[i.toNat]'hi,st[a.toNat]'ha)<0):pU c st.toArray a (st[i.toNat]'hi)=true:=by show Ct c _ _=true;rw [gx ha];exact IG h
theorem AEb (hi:i.toNat<st.length) (ha:a.toNat<st.length) (h:¬c (st[i.toNat]'hi,st[a.toNat]'ha)<0):pU c st.toArray a (st[i.toNat]'hi)=false:=by show Ct c _ _=false;rw [gx ha];exact Jf h
theorem AEc (hi:i.toNat<st.length) (ha:a.toNat<st.length) (h:¬c (st[i.toNat]'hi,st[a.toNat]'ha)<0):pD c st.toArray a (st[i.toNat]'hi)=true:=by show (!Ct c _ _)=true;rw [gx ha,Jf h];rfl
theorem AEd (hi:i.toNat<st.length) (ha:a.toNat<st.length) (h:c (st[i.toNat]'hi,st[a.toNat]'ha)<0):pD c st.toArray a (st[i.toNat]'hi)=false:=by show (!Ct c _ _)=false;rw [gx ha,IG h];rfl
theorem AIq (hi:i.toNat<st.length) (ha:a.toNat<st.length) (h:¬c (st[a.toNat]'ha,st[i.toNat]'hi)<0):qU c st.toArray a (st[i.toNat]'hi)=true:=by show (!Ct c _ _)=true;rw [gx ha,Jf h];rfl
theorem AIr (hi:i.toNat<st.length) (ha:a.toNat<st.length) (h:c (st[a.toNat]'ha,st[i.toNat]'hi)<0):qU c st.toArray a (st[i.toNat]'hi)=false:=by show (!Ct c _ _)=false;rw [gx ha,IG h];rfl
theorem AIs (hi:i.toNat<st.length) (ha:a.toNat<st.length) (h:c (st[a.toNat]'ha,st[i.toNat]'hi)<0):qD c st.toArray a (st[i.toNat]'hi)=true:=by show Ct c _ _=true;rw [gx ha];exact IG h
theorem AIt (hi:i.toNat<st.length) (ha:a.toNat<st.length) (h:¬c (st[a.toNat]'ha,st[i.toNat]'hi)<0):qD c st.toArray a (st[i.toNat]'hi)=false:=by show Ct c _ _=false;rw [gx ha];exact Jf h
abbrev PLp (c:β×β→Int) (a i j:Int) (d:Array β):Nat×Array β:=partLoop (Ct c) a.toNat i.toNat j.toNat d
abbrev PLe (c:β×β→Int) (a i j:Int) (d:Array β):Nat×Array β:=partEqLoop (Ct c) a.toNat i.toNat j.toNat d
theorem K4 {i2 j2:Int} (h1:i2.toNat=scanUp (pU c st.toArray a) st.toArray j.toNat i.toNat) (h2:j2.toNat=scanDown (pD c st.toArray a) st.toArray i2.toNat j.toNat) (h0:0≤j2) (h:i2>j2):PLp c a i j st.toArray=(j2.toNat,st.toArray):=by
 have h:=partLoop_eq (Ct c) a.toNat i.toNat j.toNat st.toArray
 rw [←h1,←h2,if_pos AA] at h
 exact h
theorem dz {i2 j2:Int} (h1:i2.toNat=scanUp (pU c st.toArray a) st.toArray j.toNat i.toNat) (h2:j2.toNat=scanDown (pD c st.toArray a) st.toArray i2.toNat j.toNat) (h0:0≤i2) (h:¬i2>j2) (hi:i2.toNat<st.length) (hj:j2.toNat<st.length):
  PLp c a (i2+1) (j2-1) ((st.set i2.toNat (st[j2.toNat]'hj)).set j2.toNat (st[i2.toNat]'hi)).toArray=PLp c a i j st.toArray:=by
 have h:=partLoop_eq (Ct c) a.toNat i.toNat j.toNat st.toArray
 rw [←h1,←h2,if_neg AA] at h
 unfold PLp
 rw [h,sw hi hj,show (i2+1).toNat=i2.toNat+1 by omega,show (j2-1).toNat=j2.toNat-1 by omega]
theorem XL {i2 j2:Int} (h1:i2.toNat=scanUp (qU c st.toArray a) st.toArray j.toNat i.toNat) (h2:j2.toNat=scanDown (qD c st.toArray a) st.toArray i2.toNat j.toNat) (h0:0≤j2) (h:i2>j2):PLe c a i j st.toArray=(i2.toNat,st.toArray):=by
 have h:=partEqLoop_eq (Ct c) a.toNat i.toNat j.toNat st.toArray
 rw [←h1,←h2,if_pos AA] at h
 exact h
theorem AAj {i2 j2:Int} (h1:i2.toNat=scanUp (qU c st.toArray a) st.toArray j.toNat i.toNat) (h2:j2.toNat=scanDown (qD c st.toArray a) st.toArray i2.toNat j.toNat) (h0:0≤i2) (h:¬i2>j2) (hi:i2.toNat<st.length) (hj:j2.toNat<st.length):
  PLe c a (i2+1) (j2-1) ((st.set i2.toNat (st[j2.toNat]'hj)).set j2.toNat (st[i2.toNat]'hi)).toArray=PLe c a i j st.toArray:=by
 have h:=partEqLoop_eq (Ct c) a.toNat i.toNat j.toNat st.toArray
 rw [←h1,←h2,if_neg AA] at h
 unfold PLe
 rw [h,sw hi hj,show (i2+1).toNat=i2.toNat+1 by omega,show (j2-1).toNat=j2.toNat-1 by omega]
variable {lt:β→β→Bool} {a0 b0 m n:Nat} {l s s':Array β}
structure PS (lt:β→β→Bool) (a0 b0 a b:Nat) (l s:Array β):Prop where
 ha:a0≤a
 hab:a≤b
 hb:b≤b0
 hp:PermIn a0 b0 l s
 below:Below lt a b s
 out:∀i j,a0≤i→i<j→j<b0→(i<a∨b≤j)→lt s[j]! s[i]! =false
theorem PS.init (h:a0≤b0) (hB:Below lt a0 b0 l):PS lt a0 b0 a0 b0 l l:=⟨Nat.le_refl _,h,Nat.le_refl _,permIn_refl _ _ _,hB,fun _ _ h1 _ h3 h4=>by omega⟩
theorem PS.perm (h:PS lt a0 b0 m n l s) (hs:b0≤l.size) (hq:PermIn m n s s'):PS lt a0 b0 m n l s':=by
 have hsz:s.size=l.size:=h.hp.1
 have hns:n≤s.size:=by have:=h.hb;omega
 refine ⟨h.ha,h.hab,h.hb,permIn_trans _ _ _ _ _ h.hp (permIn_mono _ _ _ _ _ _ h.ha h.hb AA hq),Below.permA permIn_all hns h.below hq,fun i j h1 h2 h3 h4=> ?_⟩
 have hm:=h.hab
 by_cases hi:m≤i∧i<n
 ·
  have hj:n≤j:=by omega
  rw [hq.2.1 j (.inr hj)]
  exact permIn_all s s' m n (fun x=>lt s[j]! x=false) hns hq (fun k hk1 hk2=>h.out k j (by have:=h.ha;omega) AA h3 (.inr hj)) i hi.1 hi.2
 ·
  rw [hq.2.1 i AA]
  by_cases hj:m≤j∧j<n
  · exact permIn_all s s' m n (fun x=>lt x s[i]! =false) hns hq (fun k hk1 hk2=>h.out i k h1 AA (by have:=h.hb;omega) (.inl AA)) j hj.1 hj.2
  · rw [hq.2.1 j AA];exact h.out i j h1 h2 h3 h4
theorem PS.done (h:PS lt a0 b0 m n l s) (hs:SortedIn lt m n s):PermIn a0 b0 l s∧SortedIn lt a0 b0 s:=by
 refine ⟨h.hp,fun i j h1 h2 h3=> ?_⟩
 by_cases hh:i<m∨n≤j
 · exact h.out i j h1 h2 h3 hh
 · exact hs i j AA h2 AA
theorem PS.eq (hw:SWO lt) (h:PS lt a0 b0 m n l s) (hs:b0≤l.size) {pv:β} (hm:0<m) (LQ:lt s[m-1]! pv=false) (hk:m<k) (hkn:k≤n) (hq:PermIn m n s s') (h1:∀i,m≤i→i<k→lt pv s'[i]! =false) (h2:∀i,k≤i→i<n→lt pv s'[i]! =true):
  PS lt a0 b0 k n l s':=by
 have h':=h.perm hs hq
 have hle:∀j,m≤j→j<n→lt s'[j]! pv=false:=by
  intro j j5 hj2
  by_cases hjk:k≤j
  · exact hw.asym (h2 j hjk hj2)
  ·
   have hb:=h'.below
   rcases hb with hb|hb
   · omega
   ·
    have hb:=hb j j5 hj2
    rw [hq.2.1 (m-1) (.inl AA)] at hb
    exact hw.ntrans _ _ _ hb LQ
 have key:∀i j,m≤i→i<k→m≤j→j<n→lt s'[j]! s'[i]! =false:=fun i j ha hb hc hd=>hw.ntrans _ _ _ (hle j hc hd) (h1 i ha hb)
 refine ⟨by have:=h.ha;omega,hkn,h.hb,h'.hp,.inr fun i hi1 hi2=>key (k-1) i AA AA AA hi2,fun i j g1 g2 g3 g4=> ?_⟩
 by_cases hh:i<m∨n≤j
 · exact h'.out i j g1 g2 g3 hh
 · exact key i j AA AA AA AA
structure Rn (lt:β→β→Bool) (m n k:Nat) (s:Array β):Prop where
 h1:m≤k
 h2:k<n
 lo:∀i,m≤i→i<k→lt s[i]! s[k]! =true
 up:∀i,k<i→i<n→lt s[i]! s[k]! =false
theorem PS.left (hw:SWO lt) (h:PS lt a0 b0 m n l s) (hs:b0≤l.size) (hp:Rn lt m n k s) (hq:PermIn m k s s') (Jg:SortedIn lt m k s'):PS lt a0 b0 (k+1) n l s':=by
 obtain ⟨h1,h2,lo,up⟩:=hp
 have hsz:s.size=l.size:=h.hp.1
 have hks:k≤s.size:=by have:=h.hb;omega
 have ZJ:PermIn m n s s':=permIn_mono _ _ _ _ _ _ (Nat.le_refl _) AA (by have:=h.hb;omega) hq
 have h':=h.perm hs ZJ
 have ek:s'[k]! =s[k]! :=hq.2.1 k (.inr (Nat.le_refl _))
 have lo':∀i,m≤i→i<k→lt s'[i]! s[k]! =true:=fun i g1 g2=>permIn_all s s' m k (fun x=>lt x s[k]! =true) hks hq lo i g1 g2
 have up':∀i,k<i→i<n→lt s'[i]! s[k]! =false:=fun i g1 g2=>by rw [hq.2.1 i (.inr AA)];exact up i g1 g2
 refine ⟨by have:=h.ha;omega,by omega,h.hb,h'.hp,.inr fun i g1 g2=> ?_,fun i j g1 g2 g3 g4=> ?_⟩
 · rw [show k+1-1=k by omega,ek];exact up' i AA g2
 ·
  by_cases hh:i<m∨n≤j
  · exact h'.out i j g1 g2 g3 hh
  ·
   rcases Nat.lt_trichotomy i k with hik|hik|hik
   ·
    rcases Nat.lt_trichotomy j k with hjk|hjk|hjk
    · exact Jg i j AA g2 hjk
    · subst hjk;rw [ek];exact hw.asym (lo' i AA hik)
    · exact cQ
   · subst hik;rw [ek];exact up' j g2 AA
   · omega
theorem PS.right (hw:SWO lt) (h:PS lt a0 b0 m n l s) (hs:b0≤l.size) (hp:Rn lt m n k s) (hq:PermIn (k+1) n s s') (Jg:SortedIn lt (k+1) n s'):PS lt a0 b0 m k l s':=by
 obtain ⟨h1,h2,lo,up⟩:=hp
 have hsz:s.size=l.size:=h.hp.1
 have hns:n≤s.size:=by have:=h.hb;omega
 have ZJ:PermIn m n s s':=permIn_mono _ _ _ _ _ _ AA (Nat.le_refl _) hns hq
 have h':=h.perm hs ZJ
 have ek:s'[k]! =s[k]! :=hq.2.1 k (.inl AA)
 have lo':∀i,m≤i→i<k→lt s'[i]! s[k]! =true:=fun i g1 g2=>by rw [hq.2.1 i (.inl AA)];exact lo i g1 g2
 have up':∀i,k<i→i<n→lt s'[i]! s[k]! =false:=fun i g1 g2=>permIn_all s s' (k+1) n (fun x=>lt x s[k]! =false) hns hq (fun i q1 q2=>up i AA q2) i AA g2
 refine ⟨h.ha,h1,by have:=h.hb;omega,h'.hp,?_,fun i j g1 g2 g3 g4=> ?_⟩
 ·
  rcases h'.below with hb|hb
  · exact .inl hb
  · exact .inr fun i q1 q2=>hb i q1 AA
 ·
  by_cases hh:i<m∨n≤j
  · exact h'.out i j g1 g2 g3 hh
  ·
   rcases Nat.lt_trichotomy i k with hik|hik|hik
   ·
    rcases Nat.lt_trichotomy j k with hjk|hjk|hjk
    · omega
    · subst hjk;rw [ek];exact hw.asym (lo' i AA hik)
    · exact cQ
   · subst hik;rw [ek];exact up' j g2 AA
   · exact Jg i j AA g2 AA
theorem PS.mT (h:PS lt a0 b0 m n l s) (hk:k≤n):Below lt m k s:=h.below.imp id fun hb i g1 g2=>hb i g1 AA
theorem Rn.mU (hp:Rn lt m n k s):Below lt (k+1) n s:= .inr fun i g1 g2=>by rw [show k+1-1=k by omega];exact hp.up i AA g2
theorem TH (hw:SWO lt) (h:∀k,m<k→k<n→lt s[k]! s[k-1]! =false):SortedIn lt m n s:=by
 intro i j h1 h2 h3
 obtain ⟨d,rfl⟩:∃d,j=i+d+1:=⟨j-i-1,by omega⟩
 induction d with
 |zero=>exact h (i+0+1) AA h3
 |succ d ih=>exact hw.ntrans _ _ _ (h (i+(d+1)+1) AA h3) (by rw [show i+(d+1)+1-1=i+d+1 by omega];exact ih AA AA)
end
section
variable {β:Type} [Inhabited β] {c:β×β→Int} {st:List β}
def Adj (c:β×β→Int) (a b:Int) (l:List β):Prop:=∀k,a.toNat<k→k<b.toNat→Ct c l.toArray[k]! l.toArray[k-1]! =false
theorem Adj.start (a:Int) (l:List β) (h0:0≤a):Adj c a (a+1) l:=fun k h1 h2=>by omega
theorem Adj.go {a i k:Int} (h:Adj c a i st) (h0:0≤a) (ha:a<i) (hk:k=i-1) (hi:i.toNat<st.length) (hk':k.toNat<st.length) (hc:0≤c (st[i.toNat]'hi,st[k.toNat]'hk')):Adj c a (i+1) st:=fun m h1 h2=>by
 rcases Nat.lt_or_ge m i.toNat with hm|hm
 · exact h m h1 hm
 ·
  have e:m=i.toNat:=by omega
  subst e
  rw [show i.toNat-1=k.toNat by omega,gx hi,gx hk'];exact Jf AA
theorem Adj.sorted {a b:Int} (hw:SWO (Ct c)) (h:Adj c a b st):SortedIn (Ct c) a.toNat b.toNat st.toArray:=TH hw h
end
section
variable {β:Type} [Inhabited β]
def D_ (a b:Int) (l st:List β):Prop:=PermIn a.toNat b.toNat l.toArray st.toArray
def Gh (c:β×β→Int) (a b:Int) (l st:List β):Prop:=PermIn a.toNat b.toNat l.toArray st.toArray∧SortedIn (Ct c) a.toNat b.toNat st.toArray
theorem D_.len {a b:Int} {l st:List β} (h:D_ a b l st):st.length=l.length:=by have:=h.1;simpa using this
theorem Gh.len {c:β×β→Int} {a b:Int} {l st:List β} (h:Gh c a b l st):st.length=l.length:=by have:=h.1.1;simpa using this
def Ro (c:β×β→Int) (hi first lo:Int) (l st:List β):Prop:=st.length=l.length∧st.toArray=siftDown (Ct c) hi.toNat first.toNat lo.toNat l.toArray
theorem Ro.len {c:β×β→Int} {hi first lo:Int} {l st:List β} (h:Ro c hi first lo l st):st.length=l.length:=h.1
abbrev PE (c:β×β→Int) (a b pv:Int) (l:List β):Nat×Array β:=partitionEqual (Ct c) l.toArray a.toNat b.toNat pv.toNat
abbrev PA (c:β×β→Int) (a b pv:Int) (l:List β):Nat×Bool×Array β:=partition (Ct c) l.toArray a.toNat b.toNat pv.toNat
def XM (c:β×β→Int) (a b pv:Int) (l st:List β):Prop:=st.length=l.length∧st.toArray=(PE c a b pv l).2
def T5 (c:β×β→Int) (a b pv:Int) (l st:List β):Prop:=st.length=l.length∧st.toArray=(PA c a b pv l).2.2
theorem XM.len {c:β×β→Int} {a b pv:Int} {l st:List β} (h:XM c a b pv l st):st.length=l.length:=h.1
theorem T5.len {c:β×β→Int} {a b pv:Int} {l st:List β} (h:T5 c a b pv l st):st.length=l.length:=h.1
theorem mV {c:β×β→Int} {a b pv:Int} {l:List β} (h0:0≤a) (hab:a<b) (ha:a.toNat<l.length) (hp:pv.toNat<l.length):PLe c a (a+1) (b-1) ((l.set a.toNat (l[pv.toNat]'hp)).set pv.toNat (l[a.toNat]'ha)).toArray=PE c a b pv l:=by
 unfold PLe PE partitionEqual
 rw [sw ha hp,show (a+1).toNat=a.toNat+1 by omega,show (b-1).toNat=b.toNat-1 by omega]
theorem NG {c:β×β→Int} {a b pv:Int} {l:List β} (h0:0≤a) (hab:a<b) (ha:a.toNat<l.length) (hp:pv.toNat<l.length) {st:List β} {j:Int}
  (h:PLp c a (a+1) (b-1) ((l.set a.toNat (l[pv.toNat]'hp)).set pv.toNat (l[a.toNat]'ha)).toArray=(j.toNat,st.toArray)) (hj:j.toNat<st.length) (has:a.toNat<st.length):(PA c a b pv l).1=j.toNat∧((st.set j.toNat (st[a.toNat]'has)).set a.toNat (st[j.toNat]'hj)).toArray=(PA c a b pv l).2.2:=by
 unfold PLp at h
 rw [sw ha hp,show (a+1).toNat=a.toNat+1 by omega,show (b-1).toNat=b.toNat-1 by omega] at h
 unfold PA
 rw [partition_fst,partition_arr,h,sw hj has]
 exact ⟨rfl,rfl⟩
theorem D_.refl (a b:Int) (l:List β):D_ a b l l:=permIn_refl _ _ _
theorem D_.swap {a b i j:Int} {l st:List β} (h:D_ a b l st) (hi:i.toNat<st.length) (hj:j.toNat<st.length) (h1:a.toNat≤i.toNat) (h2:i.toNat<b.toNat) (h3:a.toNat≤j.toNat) (h4:j.toNat<b.toNat) (hb:b.toNat≤l.length):
  D_ a b l ((st.set i.toNat (st[j.toNat]'hj)).set j.toNat (st[i.toNat]'hi)):=by
 unfold D_
 rw [sw hi hj]
 exact permIn_trans _ _ _ _ _ h (swp_permIn _ _ _ _ _ h1 h2 h3 h4 (by have:=h.len;simp;omega))
theorem D_.trans {a b:Int} {l m st:List β} (h:D_ a b l m) (k:D_ a b m st):D_ a b l st:=permIn_trans _ _ _ _ _ h k
theorem T6 {c:β×β→Int} (hw:SWO (Ct c)) {a b pv:Int} {l st:List β} (h:T5 c a b pv l st) (h0:0≤a) (Mj:a≤pv) (dw:pv<b) (hb:b.toNat≤l.length):D_ a b l st∧Rn (Ct c) a.toNat b.toNat (PA c a b pv l).1 st.toArray:=by
 obtain ⟨h1,h2,h3,h4,h5⟩:=partition_holds (Ct c) hw l.toArray a.toNat b.toNat pv.toNat AA AA Fb
 unfold D_
 rw [h.2]
 exact ⟨h3,h1,h2,h4,h5⟩
theorem PS.eqL {c:β×β→Int} (hw:SWO (Ct c)) {a0 b0:Nat} {a b pv k:Int} {l st t:List β} (h:PS (Ct c) a0 b0 a.toNat b.toNat l.toArray st.toArray) (hs:b0≤l.toArray.size) (ht:XM c a b pv st t) (h0:0<a) (hab:a<b) (hk:k=a-1) (S8:k.toNat<st.length) (Mj:a≤pv) (dw:pv<b) (hpl:pv.toNat<st.length) (hb:b.toNat≤st.length)
  (hc:0≤c (st[k.toNat]'S8,st[pv.toNat]'hpl)):PS (Ct c) a0 b0 (PE c a b pv st).1 b.toNat l.toArray t.toArray∧a.toNat<(PE c a b pv st).1∧(PE c a b pv st).1≤b.toNat:=by
 have hlt:Ct c st.toArray[a.toNat-1]! st.toArray[pv.toNat]! =false:=by rw [show a.toNat-1=k.toNat by omega,gx S8,gx hpl];exact Jf AA
 have hmin:∀i,a.toNat≤i→i<b.toNat→Ct c st.toArray[i]! st.toArray[pv.toNat]! =false:=fun i h1 h2=>by
  rcases h.below with hb|hb
  · omega
  · exact hw.ntrans _ _ _ (hb i h1 h2) hlt
 obtain ⟨h1,h2,h3,h4,h5⟩:=partitionEqual_holds (Ct c) hw st.toArray a.toNat b.toNat pv.toNat AA AA Fb hmin
 refine ⟨?_,h1,h2⟩
 rw [ht.2]
 exact PS.eq hw h hs AA hlt h1 h2 h3 h4 h5
theorem D_.whole {l st:List β} (h:D_ 0 l.length l st):st.Perm l:=by
 have:=h.2.2
 have e:=h.len
 rwa [show ((l.length:Nat):Int).toNat=l.toArray.size by simp,show (0:Int).toNat=0 from rfl,Array.extract_size,show l.toArray.size=st.toArray.size by simp [e],Array.extract_size] at this
end
section
open Go
variable {P:Program} {L:Lg P} {n:Fm} {fz:Nat} {E:Env} {M0:Av} {w0:World} {S:Nat→Prop} {rs:List Ay} {new:Bool} {b:Nat} {T:TypeId} {ps:List Pr}
theorem St.leC (j:Nat) (qs:List Pr) (hj:rs[j]? =some (AE new b T ps)) (hl:PR ps qs) {a:Act} {w:World} (h:St n E (Hp M0 w0 S rs) a w):St n E (Hp M0 w0 S (rs.set j (AE new b T qs))) a w:=by
 obtain ⟨M,h1,h2,h3,h4⟩:=h
 have h4:A8 M0 w0 S rs M w:=h4
 obtain ⟨hM,cs,hb,hc,ho⟩:=(h4.hold _ (List.mem_of_getElem? hj)).1
 exact ⟨M,h1,h2,h3,h4.Cw hj rfl rfl ⟨hM,cs,hb,hl.hl hc,ho⟩⟩
theorem Tr.leC {Q:Exit→Act→World→Prop} {c:Code} (j:Nat) (qs:List Pr) (hj:rs[j]? =some (AE new b T ps)) (hl:PR ps qs) (k:Tr L n E (Hp M0 w0 S (rs.set j (AE new b T qs))) c Q):Tr L n E (Hp M0 w0 S rs) c Q:=Tr.conv (fun _ _ hs=>hs.leC j qs hj hl) k
end
end Cp
namespace Cp
open Go Go.RowKit Go.Great
variable {a:Act} {ops:Array Oper} {M:Av} {rows:List (List Pr)} {sp zs:List Value} {b cap j k m:Nat} {x:Operand} {p:Pr} {e t:TypeId} {v:Value} {w:World}
section
variable {P:Program} {L:Lg P} {n:Fm} {fz:Nat} {E:Env} {I:Cc} {Q:Exit→Act→World→Prop}
theorem Tr.vG {α0:Type} (K:Env) (hK:CH E K) (F:α0→Env) (Ii:α0→Cc) (C:α0→Prop) {x y:Code} (h:Tr L n E I x (Exit.then (fun a w=>∃x0,C x0∧St n (F x0++K) (Ii x0) a w) Q))
  (k:∀x0,C x0→Tr L n (F x0++K) (Ii x0) y Q):Tr L n E I (.seq x y) Q:=
 Tr.cut (fun y:α0=>F y++K) (fun y=>Ii y) (fun y=>C y) (Tr.post h fun e a w h=>by cases e<;>first|exact h|(obtain ⟨x0,h1,h2⟩:=h;exact ⟨x0,h1,h2⟩)) fun y hy=>k y hy
theorem Tr.vH {α0 α1:Type} (K:Env) (hK:CH E K) (F:α0→α1→Env) (Ii:α0→α1→Cc) (C:α0→α1→Prop) {x y:Code} (h:Tr L n E I x (Exit.then (fun a w=>∃x0 x1,C x0 x1∧St n (F x0 x1++K) (Ii x0 x1) a w) Q))
  (k:∀x0 x1,C x0 x1→Tr L n (F x0 x1++K) (Ii x0 x1) y Q):Tr L n E I (.seq x y) Q:=
 Tr.cut (fun y:α0×α1=>F y.1 y.2++K) (fun y=>Ii y.1 y.2) (fun y=>C y.1 y.2) (Tr.post h fun e a w h=>by cases e<;>first|exact h|(obtain ⟨x0,x1,h1,h2⟩:=h;exact ⟨(x0,x1),h1,h2⟩)) fun y hy=>k y.1 y.2 hy
theorem Tr.QC {α0 α1:Type} (K:Env) (hK:CH E K) (F:α0→α1→Value→Env) (Ii:α0→α1→Value→Cc) (C:α0→α1→Prop) {x y:Code} (h:Tr L n E I x (Exit.then (fun a w=>∃x0 x1 v0,C x0 x1∧St n (F x0 x1 v0++K) (Ii x0 x1 v0) a w) Q))
  (k:∀x0 x1 v0,C x0 x1→Tr L n (F x0 x1 v0++K) (Ii x0 x1 v0) y Q):Tr L n E I (.seq x y) Q:=
 Tr.cut (fun y:α0×α1×Value=>F y.1 y.2.1 y.2.2++K) (fun y=>Ii y.1 y.2.1 y.2.2) (fun y=>C y.1 y.2.1) (Tr.post h fun e a w h=>by cases e<;>first|exact h|(obtain ⟨x0,x1,v0,h1,h2⟩:=h;exact ⟨(x0,x1,v0),h1,h2⟩)) fun y hy=>k y.1 y.2.1 y.2.2 hy
theorem Tr.vI {α0 α1 α2:Type} (K:Env) (hK:CH E K) (F:α0→α1→α2→Env) (Ii:α0→α1→α2→Cc) (C:α0→α1→α2→Prop) {x y:Code} (h:Tr L n E I x (Exit.then (fun a w=>∃x0 x1 x2,C x0 x1 x2∧St n (F x0 x1 x2++K) (Ii x0 x1 x2) a w) Q))
  (k:∀x0 x1 x2,C x0 x1 x2→Tr L n (F x0 x1 x2++K) (Ii x0 x1 x2) y Q):Tr L n E I (.seq x y) Q:=
 Tr.cut (fun y:α0×α1×α2=>F y.1 y.2.1 y.2.2++K) (fun y=>Ii y.1 y.2.1 y.2.2) (fun y=>C y.1 y.2.1 y.2.2) (Tr.post h fun e a w h=>by cases e<;>first|exact h|(obtain ⟨x0,x1,x2,h1,h2⟩:=h;exact ⟨(x0,x1,x2),h1,h2⟩)) fun y hy=>k y.1 y.2.1 y.2.2 hy
end
section
variable {P:Program} {L:Lg P} {n:Fm} {fz:Nat} {E:Env} {M0:Av} {w0:World} {S:Nat→Prop} {rs:List Ay} {β:Type} {e:TypeId} {sz:Nat} {f:β→List Pr} {Φ:List β→Prop} {v:Value}
theorem St.mW (j d:Nat) (hj:rs[j]? =some (BX e sz rows v)) (hd:E.lookup d=some (Ag v p)) (hf:∀r∈rows,r.length=sz) (hs:St n E (Hp M0 w0 S rs) a w):
  St n ((d,Ag v (slice sz rows))::E) (Hp M0 w0 S (rs.set j (Ax e sz v))) a w:=by
 obtain ⟨M,h1,h2,h3,h4⟩:=hs
 have h4:A8 M0 w0 S rs M w:=h4
 obtain ⟨M',h6,h7,h8⟩:=A8.gV h4 hj hf
 refine ⟨M',h1,h2,fun s q hq=> ?_,h7⟩
 simp only [List.lookup] at hq
 split at hq
 ·
  rename_i e1
  have:s=d:=by simpa using e1
  subst this
  simp only [Option.some.injEq] at hq
  subst hq
  have h9:=(h3 _ _ hd).1
  exact ⟨h9,by rw [h9];exact h8⟩
 · exact q.st _ _ _ _ _ h6 (h3 s q hq)
theorem Tr.mW {Q:Exit→Act→World→Prop} {c:Code} (j d:Nat) (hj:rs[j]? =some (BX e sz rows v)) (hd:E.lookup d=some (Ag v p)) (hf:∀r∈rows,r.length=sz) (k:Tr L n ((d,Ag v (slice sz rows))::E) (Hp M0 w0 S (rs.set j (Ax e sz v))) c Q):Tr L n E (Hp M0 w0 S rs) c Q:=
 fun a w hs=>k a w (hs.mW j d hj hd hf)
theorem NH (h:rows=[]):Pr.le (is (.slice none 0 0)) (Ag (.slice none 0 0) (lens rows.length)):=by
 subst h;exact fun _ _ _ hv=>⟨hv,⟨none,0,by rw [hv];rfl⟩⟩
theorem Ci {v:Value} {a:Nat} (h:a=b):Pr.le (Ag v (lens a)) (Ag v (lens b)):=by subst h;exact Pr.le_refl _
end
section
variable {P:Program} {L:Lg P} {n:Fm} {fz:Nat} {E:Env} {M0:Av} {w0:World} {S:Nat→Prop} {rs:List Ay} {o:Oper}
def NI (e:TypeId) (sz m:Nat) (v:Value):Ay where
 blk:=match v with| .slice (some a) _ _=>some a.block|_=>none
 new:=true
 h M w:=∃(b cap:Nat) (sp:List Value),v= .slice (some ⟨b,0,none⟩) m cap∧m≤cap∧cap≤maxLen∧sp.length=cap*sz∧(AE true b e (sp.map is)).h M w
 st M w M' w' he hk h:=by
  obtain ⟨b,cap,sp,rfl,h1,h2,h3,h4⟩:=h
  exact ⟨b,cap,sp,rfl,h1,h2,h3,(AE true b e (sp.map is)).st M w M' w' he hk h4⟩
theorem mX {tn ty:TypeId} {sz bytes:Nat} {kn:IntKind} (ht:P.underlying t=some (.slice e)) (htn:P.underlying tn=some (.int kn)) (hz:Az P e=some sz) (hby:Br P e=some bytes) (D8:BM P e=some zs) (hzl:zs.length=sz) (hone:zs.all (·.oneCell')=true) (hsz:0<sz) (h:A8 M0 w0 S rs M w) (hj:rs[j]? =some Bo) (hpos:0<m) (Gc:m≤maxLen) (hfit:m*bytes≤140737488355328):
  ∃v' w' M',(Builtin.append_ #[t,tn] ty #[.slice none 0 0,.int .i64 (m:Nat)]).run P w= .ok v' w'∧(lens m).h M' w' v'∧Ext M w M' w'∧A8 M0 w0 S (rs.set j (NI e sz m v')) M' w':=by
 unfold Az at hz
 unfold Br at hby
 unfold BM at D8
 cases hi:P.info? e with
 |none=>rw [hi] at hz;cases hz
 |some i=>
  rw [hi] at hz hby D8
  simp only [Option.map_some,Option.some.injEq,Option.map_eq_some_iff] at hz hby D8
  obtain ⟨z,Wg,D8⟩:=D8
  have dF:z.cells.size=sz:=by rw [←hzl,←D8];simp
  have hrun:=Lib.run_append_nil_zeros (P:=P) w t tn ty e i z .i64 kn ht htn hi Wg m hpos (by rw [hz];exact hsz) Pt (by rw [hby];omega)
  generalize hcap:grownCap w m 0 e=cap at hrun
  have hge:m≤cap:=by rw [←hcap];exact grownCap_ge _ _ _ _
  have hle:cap≤maxLen:=by rw [←hcap];exact grownCap_le_maxLen _ _ _ _ Gc
  generalize hcs:(Builtin.zeroCells z.cells m++Builtin.zeroCells z.cells (cap-m))=cs at hrun
  have hsize:cs.toList.length=cap*sz:=by
   rw [←hcs,Array.length_toList,Array.size_append,size_zeroCells,size_zeroCells,dF,←Nat.add_mul];congr 1;omega
  have mL:∀c∈cs.toList,c.oneCell'=true:=by
   intro c hc
   rw [←hcs,Array.toList_append] at hc
   rcases List.mem_append.1 hc with hc|hc
   · exact EZ D8 hone c hc
   · exact EZ D8 hone c hc
  have hb:Below w.heap.size w (w.drew.alloc (.cells cs e)):=((Below.refl _ _).drew).alloc (Nat.le_refl _) _
  have h2:=Ext.below (M:=M) hb
  have Eo:Ext M w (fun b o=>M b o∨b=w.heap.size) (w.drew.alloc (.cells cs e)):=by
   refine ⟨h2.size,fun a v hc hm=>⟨fun hx=> ?_,(h2.keep a v hc hm).2⟩,fun b o ho hp hm=>⟨fun hx=> ?_,(h2.obj b o ho hp hm).2⟩⟩
   ·
    rcases hx with hx|hx
    · exact hm hx
    · exact Ew
   ·
    rcases hx with hx|hx
    · exact hm hx
    · subst hx;simp at ho
  have hs1:(w.drew.alloc (.cells cs e)).heap.size=w.heap.size+1:=by simp
  refine ⟨_,_,fun b o=>M b o∨b=w.heap.size,hrun,⟨_,_,rfl⟩,Eo,?_⟩
  refine h.replace hj Eo hb.os hb.tape hb.output (fun k hk _=>hb.block k hk) rfl (fun b o hm _=> .inl hm) (fun b o hx=> ?_) ?_ rfl (fun b hbk=> ?_)
  ·
   rcases hx with hx|hx
   · exact Kw
   · omega
  ·
   refine ⟨w.heap.size,cap,cs.toList,rfl,hge,hle,hsize,fun o=> .inr rfl,cs.toList,?_,J3 _ _ _,mL⟩
   have hh:(w.drew.alloc (.cells cs e)).heap[w.heap.size]? =some (.cells cs e (0,0)):=heap_alloc_new w.drew _
   rw [hh]
  ·
   have En:some w.heap.size=some b:=hbk
   injection En with e1
   subst e1
   exact ⟨by rw [hs1];omega,.inr (Nat.le_refl _)⟩
theorem L9 {tn:TypeId} {y:Operand} {sz bytes d:Nat} {i:Int} {kn:IntKind} (hg:o.guard=none) (hd:o.dst=some d) (hn:d<n) (ho:o.op= .call { callee:= .builtin .append,args:= #[x,y],argTypes:= #[t,tn] }) (ht:P.underlying t=some (.slice e)) (htn:P.underlying tn=some (.int kn)) (hz:Az P e=some sz) (hby:Br P e=some bytes) (D8:BM P e=some zs) (hzl:zs.length=sz) (hone:zs.all (·.oneCell')=true) (hsz:0<sz) (hx:VL E x (is (.slice none 0 0))) (hy:VL E y (int i)) (hi:i=(m:Nat)) (hpos:0<m) (Gc:m≤maxLen) (hfit:m*bytes≤140737488355328):DY P M0 w0 S n j (SR.c Bo) ⟨d,NI e sz m⟩ o E (lens m):=by
 refine ⟨hg,fun M w a rs Uz he hI hj=> ?_⟩
 have h1:a.eval x= .slice none 0 0:=hx.ev he Da
 have h2:a.eval y= .int .i64 i:=hy.ev he Da
 obtain ⟨v',w',M',hrun,h3,h4,h5⟩:=mX (ty:=o.type) ht htn hz hby D8 hzl hone hsz hI hj hpos Gc hfit
 have Ep:(execOp a.eval o).run P w= .ok (.value v') w':=by rw [hi] at h2;simp [execOp,ho,resolve,invoke,builtin,h1,h2,hrun]
 rw [Ep]
 refine ⟨M',h3,h4,?_⟩
 have:(SR.at_ (a.put o.dst v') ⟨d,NI e sz m⟩)=NI e sz m v':=by unfold SR.at_ Slot.val;dsimp only;rw [hd,B1 Hf]
 rw [this];exact h5
theorem TO.mY {Q:Exit→Act→World→Prop} {r:List Oper} {sz:Nat} (j d:Nat) (hj:rs[j]? =some (NI e sz m v)) (hd:E.lookup d=some (Ag v p)) (k:∀(b cap:Nat) (sp:List Value),m≤cap→cap≤maxLen→sp.length=cap*sz→TO P n ops r ((d,is (.slice (some ⟨b,0,none⟩) m cap))::E) (Hp M0 w0 S (rs.set j (AE true b e (sp.map is)))) Q):TO P n ops r E (Hp M0 w0 S rs) Q:=by
 intro m' hl a w hs
 obtain ⟨M,h1,h2,h3,h4⟩:=hs
 have h4:A8 M0 w0 S rs M w:=h4
 obtain ⟨b,cap,sp,rfl,h5,h6,h7,h8⟩:=(h4.hold _ (List.mem_of_getElem? hj)).1
 refine k b cap sp h5 h6 h7 m' hl a w ⟨M,h1,h2,fun s q hq=> ?_,h4.Cw hj rfl rfl h8⟩
 simp only [List.lookup] at hq
 split at hq
 ·
  rename_i e1
  have:s=d:=by simpa using e1
  subst this
  simp only [Option.some.injEq] at hq
  subst hq
  exact (h3 _ _ hd).1
 · exact h3 s q hq
theorem GH {I:Cc} (ho:o.op= .call { callee:= .builtin .cap,args:= #[x],argTypes:= #[t] }) (ht:P.underlying t=some (.slice e)) (hx:VL E x (is (.slice none 0 0))):Ab P I o E (int 0):=
 Ab.same fun M w a he _=>by
  have h1:a.eval x= .slice none 0 0:=hx.ev he Da
  exact ⟨_,by simp [execOp,ho,resolve,invoke,builtin,h1,Builtin.cap_,run_underlying ht];rfl,rfl⟩
theorem GI {I:Cc} (ho:o.op= .call { callee:= .builtin .len,args:= #[x],argTypes:= #[t] }) (ht:P.underlying t=some (.slice e)) (hx:VL E x (is (.slice none 0 0))):Ab P I o E (int 0):=
 Ab.le (CB (sz:=1) (rows:=[]) ho ht (VL.le hx (AM 1))) (Pr.le_refl _)
theorem KC {I:Cc} {y:Operand} {k:IntKind} {sz:Nat} (ho:o.op= .slice t x none (some y) none) (ht:P.underlying t=some (.slice e)) (hz:Az P e=some sz) (hx:VL E x (is (.slice none 0 0))) (hy:VL E y (is (.int k 0))):Ab P I o E (is (.slice none 0 0)):=
 Ab.same fun M w a he _=>by
  have h1:a.eval x= .slice none 0 0:=hx.ev he Ap
  have h2:a.eval y= .int k 0:=hy.ev he Ap
  exact ⟨_,by simp [execOp,ho,h1,h2,Instr.sliceAt,Instr.slice,Instr.sliceBounds,Instr.sliceBound,asIntOf,run_underlying ht,CL hz],rfl⟩
end
section
variable {P:Program} {L:Lg P} {n:Fm} {fz:Nat} {E:Env} {M0:Av} {w0:World} {S:Nat→Prop} {rs:List Ay} {ε:Type} {res:ε→List Ay}
def HX (res:ε→List Ay) (es:List ε):List Ay:=es.flatMap res
theorem Vd:∀{es:List ε} {k:Nat} {x:ε},es[k]? =some x→(HX res es).Perm (res x++HX res (es.eraseIdx k))
 |[],_,_,h=>by simp at h
 |a::es,0,x,h=>by
  simp only [List.getElem?_cons_zero,Option.some.injEq] at h
  subst h
  exact List.Perm.refl _
 |a::es,k+1,x,h=>by
  have ih:=Vd (es:=es) (k:=k) (x:=x) D5
  show (res a++HX res es).Perm (res x++(res a++HX res (es.eraseIdx k)))
  refine (ih.append_left (res a)).trans ?_
  rw [←List.append_assoc,←List.append_assoc]
  exact List.perm_append_comm.append_right _
theorem d_:∀{es:List ε} {k:Nat} (x:ε),k<es.length→(res x++HX res (es.eraseIdx k)).Perm (HX res (es.set k x))
 |[],_,_,h=>absurd h (Nat.not_lt_zero _)
 |a::es,0,x,_=>List.Perm.refl _
 |a::es,k+1,x,h=>by
  have ih:=d_ (es:=es) (k:=k) x D5
  show (res x++(res a++HX res (es.eraseIdx k))).Perm (res a++HX res (es.set k x))
  refine List.Perm.trans ?_ (ih.append_left (res a))
  rw [←List.append_assoc,←List.append_assoc]
  exact List.perm_append_comm.append_right _
theorem XN (es:List ε) (x:ε):HX res (es++[x])=HX res es++res x:=by unfold HX;simp
theorem Rp {a b c:List Ay} (h:b.Perm c):(a++b).Perm (a++c):=h.append_left a
theorem St.perm {rs':List Ay} (hp:rs.Perm rs') (h:St n E (Hp M0 w0 S rs) a w):St n E (Hp M0 w0 S rs') a w:=by
 obtain ⟨M,h1,h2,h3,h4⟩:=h
 exact ⟨M,h1,h2,h3,A8.perm hp h4⟩
theorem Tr.focus {Q:Exit→Act→World→Prop} {c:Code} (Cl:List Ay) {es:List ε} {x:ε} (hx:es[k]? =some x) (NJ:rs=Cl++HX res es) (kk:Tr L n E (Hp M0 w0 S (res x++(Cl++HX res (es.eraseIdx k)))) c Q):Tr L n E (Hp M0 w0 S rs) c Q:=
 Tr.conv (fun _ _ hs=>hs.perm (by
  subst NJ
  refine (Rp (Vd hx)).trans ?_
  rw [←List.append_assoc,←List.append_assoc]
  exact List.perm_append_comm.append_right _)) kk
theorem NK (Cl:List Ay) {es:List ε} (x:ε) (hk:k<es.length) (NJ:rs=res x++(Cl++HX res (es.eraseIdx k))):rs.Perm (Cl++HX res (es.set k x)):=by
 subst NJ
 refine List.Perm.trans ?_ (Rp (d_ x hk))
 rw [←List.append_assoc,←List.append_assoc]
 exact List.perm_append_comm.append_right _
theorem Fin.Ve {Q:Exit→Act→World→Prop} {e:Exit} (Cl:List Ay) {es:List ε} (x:ε) (hk:k<es.length) (NJ:rs=res x++(Cl++HX res (es.eraseIdx k))) (kk:Fin n E (Hp M0 w0 S (Cl++HX res (es.set k x))) Q e):Fin n E (Hp M0 w0 S rs) Q e:=
 Fin.conv (fun _ _ hs=>hs.perm (NK Cl x hk NJ)) kk
theorem Tr.Ve {Q:Exit→Act→World→Prop} {c:Code} (Cl:List Ay) {es:List ε} (x:ε) (hk:k<es.length) (NJ:rs=res x++(Cl++HX res (es.eraseIdx k))) (kk:Tr L n E (Hp M0 w0 S (Cl++HX res (es.set k x))) c Q):Tr L n E (Hp M0 w0 S rs) c Q:=
 Tr.conv (fun _ _ hs=>hs.perm (NK Cl x hk NJ)) kk
theorem Tr.fold {Q:Exit→Act→World→Prop} {c:Code} (Cl:List Ay) {es:List ε} (x:ε) (NJ:rs=res x++(Cl++HX res es)) (kk:Tr L n E (Hp M0 w0 S (Cl++HX res (es++[x]))) c Q):Tr L n E (Hp M0 w0 S rs) c Q:=
 Tr.conv (fun _ _ hs=>hs.perm (by
  subst NJ
  rw [XN,←List.append_assoc Cl]
  exact List.perm_append_comm)) kk
theorem Tr.yq {Q:Exit→Act→World→Prop} {c:Code} {sz:Nat} (j:Nat) (hj:rs[j]? =some (BX e sz rows v)) (hne:rows≠[]) (k:∀(b cap:Nat) (sp:List Value),v= .slice (some ⟨b,0,none⟩) rows.length cap→rows.length≤cap→cap≤maxLen→sp.length=(cap-rows.length)*sz→Tr L n E (Hp M0 w0 S (rs.set j (AE true b e (rows.flatten++sp.map is)))) c Q):Tr L n E (Hp M0 w0 S rs) c Q:=by
 intro a w hs
 obtain ⟨M,h1,h2,h3,h4⟩:=hs
 have h4:A8 M0 w0 S rs M w:=h4
 rcases (h4.hold _ (List.mem_of_getElem? hj)).1 with ⟨h5,_⟩|⟨b,cap,sp,rfl,h5,h6,h7,h8⟩
 · exact absurd h5 hne
 · exact k b cap sp rfl h5 h6 h7 a w ⟨M,h1,h2,h3,h4.Cw hj rfl rfl h8⟩
theorem St.L_ {sz:Nat} (j:Nat) (hj:rs[j]? =some (AE true b e (rows.flatten++sp.map is))) (hm:rows.length=m) (h1:m≤cap) (h2:cap≤maxLen) (h3:sp.length=(cap-m)*sz) (h:St n E (Hp M0 w0 S rs) a w):St n E (Hp M0 w0 S (rs.set j (BX e sz rows (.slice (some ⟨b,0,none⟩) m cap)))) a w:=by
 subst hm
 obtain ⟨M,g1,g2,g3,g4⟩:=h
 have g4:A8 M0 w0 S rs M w:=g4
 exact ⟨M,g1,g2,g3,g4.Cw hj rfl rfl (.inr ⟨b,cap,sp,rfl,h1,h2,h3,(g4.hold _ (List.mem_of_getElem? hj)).1⟩)⟩
theorem Fin.L_ {Q:Exit→Act→World→Prop} {x:Exit} {sz:Nat} (j:Nat) (hj:rs[j]? =some (AE true b e (rows.flatten++sp.map is))) (hm:rows.length=m) (h1:m≤cap) (h2:cap≤maxLen) (h3:sp.length=(cap-m)*sz) (k:Fin n E (Hp M0 w0 S (rs.set j (BX e sz rows (.slice (some ⟨b,0,none⟩) m cap)))) Q x):Fin n E (Hp M0 w0 S rs) Q x:=Fin.conv (fun _ _ hs=>hs.L_ j hj hm h1 h2 h3) k
end
section
variable {P:Program} {L:Lg P} {n:Fm} {fz:Nat} {E:Env} {M0:Av} {w0:World} {S:Nat→Prop} {rs:List Ay} {o:Oper}
end
end Cp
