/-
  Part 2 of the texts that prove this claim, merged.
-/
import Derived.Laws.MakeOwn
import Derived.Test.YtmocaapoeefgkaaGreatDoorProg
import Derived.KernelRfl
import Derived.Lib.ConvBytes
import Derived.Lib.Bytealg
import Derived.Laws.StructEq
import Derived.Laws.Externs
import Derived.Lib.AtoiErrMem
import Derived.Laws.IdiomRangeMap
import Derived.Sort.LotA
import Derived.Sort.LotB
import Derived.Sort.LotC
import Derived.Lib.AppendZeros
import Derived.Lib.AppendZerosOnto
import Derived.Test.YtmocaapoeefgkaaGreatDoorRcAP1
set_option linter.all false
set_option maxRecDepth 40000
set_option maxHeartbeats 16000000
namespace Cp
open Go Go.RowKit Go.Great
variable {a:Act} {ops:Array Oper} {M:Av} {ps qs:List Pr} {rs':List At} {b i j m:Nat} {o:Oper} {x:Operand} {p q:Pr} {R:At} {T e t:TypeId} {v:Value}
section
variable {P:Program} {L:Lg P} {n:Fm} {fz:Nat} {E:Env} {I:C1} {Q:Exit→Act→World→Prop}
theorem Tr.KZ {α0:Type} (K:Env) (hK:Co E K) (F:α0→Env) (Ii:α0→C1) (C:α0→Prop) (μ:α0→Nat) {c:Code} (JW:α0)  (h0:C JW) (hs:Co E (F JW)) (hI:∀M w,I.h M w→(Ii JW).h M w)
  (round:∀x0,C x0→Tr L n (F x0++K) (Ii x0) c (Exit.then (fun a w=>∃ED,(C ED∧μ ED<μ x0)∧St n (F ED++K) (Ii ED) a w) Q)):Tr L n E I (.loop c) Q:=
 Tr.NI K hK (fun y:α0=>F y) (fun y=>Ii y) (fun y=>C y) (fun y=>μ y) JW h0 hs hI fun y hy=>
  Tr.post (round y hy) fun e a w h=>by
   cases e<;>first|exact h|(obtain ⟨ED,h1,h2⟩:=h;exact ⟨ED,h1,h2⟩)
theorem Fin.LQ {α0:Type} {E1:α0→Env} {I1:α0→C1} {C:α0→Prop} (x0:α0)  (hC:C x0) (hs:Co E (E1 x0)) (hI:∀M w,I.h M w→(I1 x0).h M w):
  Fin n E I (Exit.then (fun a w=>∃ED,C ED∧St n (E1 ED) (I1 ED) a w) Q) .normal:=fun _ _ hst=>⟨x0,hC,hst.sub hs hI⟩
theorem Tr.Xb {α0:Type} (K:Env) (hK:Co E K) (F:α0→Value→Env) (Ii:α0→Value→C1) (C:α0→Prop) (μ:α0→Nat) {c:Code} (JW:α0) (Vn:Value) (h0:C JW) (hs:Co E (F JW Vn)) (hI:∀M w,I.h M w→(Ii JW Vn).h M w)
  (round:∀x0 v0,C x0→Tr L n (F x0 v0++K) (Ii x0 v0) c (Exit.then (fun a w=>∃ED JX,(C ED∧μ ED<μ x0)∧St n (F ED JX++K) (Ii ED JX) a w) Q)):Tr L n E I (.loop c) Q:=
 Tr.NI K hK (fun y:α0×Value=>F y.1 y.2) (fun y=>Ii y.1 y.2) (fun y=>C y.1) (fun y=>μ y.1) (JW,Vn) h0 hs hI fun y hy=>
  Tr.post (round y.1 y.2 hy) fun e a w h=>by
   cases e<;>first|exact h|(obtain ⟨ED,JX,h1,h2⟩:=h;exact ⟨(ED,JX),h1,h2⟩)
theorem Fin.eZ {α0:Type} {E1:α0→Value→Env} {I1:α0→Value→C1} {C:α0→Prop} (x0:α0) (v0:Value) (hC:C x0) (hs:Co E (E1 x0 v0)) (hI:∀M w,I.h M w→(I1 x0 v0).h M w):
  Fin n E I (Exit.then (fun a w=>∃ED JX,C ED∧St n (E1 ED JX) (I1 ED JX) a w) Q) .normal:=fun _ _ hst=>⟨x0,v0,hC,hst.sub hs hI⟩
theorem Tr.DI {α0 α1:Type} (K:Env) (hK:Co E K) (F:α0→α1→Env) (Ii:α0→α1→C1) (C:α0→α1→Prop) (μ:α0→α1→Nat) {c:Code} (JW:α0) (NM:α1)  (h0:C JW NM) (hs:Co E (F JW NM)) (hI:∀M w,I.h M w→(Ii JW NM).h M w)
  (round:∀x0 x1,C x0 x1→Tr L n (F x0 x1++K) (Ii x0 x1) c (Exit.then (fun a w=>∃ED FH,(C ED FH∧μ ED FH<μ x0 x1)∧St n (F ED FH++K) (Ii ED FH) a w) Q)):Tr L n E I (.loop c) Q:=
 Tr.NI K hK (fun y:α0×α1=>F y.1 y.2) (fun y=>Ii y.1 y.2) (fun y=>C y.1 y.2) (fun y=>μ y.1 y.2) (JW,NM) h0 hs hI fun y hy=>
  Tr.post (round y.1 y.2 hy) fun e a w h=>by
   cases e<;>first|exact h|(obtain ⟨ED,FH,h1,h2⟩:=h;exact ⟨(ED,FH),h1,h2⟩)
theorem Fin.Cu {α0 α1:Type} {E1:α0→α1→Env} {I1:α0→α1→C1} {C:α0→α1→Prop} (x0:α0) (x1:α1)  (hC:C x0 x1) (hs:Co E (E1 x0 x1)) (hI:∀M w,I.h M w→(I1 x0 x1).h M w):
  Fin n E I (Exit.then (fun a w=>∃ED FH,C ED FH∧St n (E1 ED FH) (I1 ED FH) a w) Q) .normal:=fun _ _ hst=>⟨x0,x1,hC,hst.sub hs hI⟩
theorem Tr.DZ {α0 α1:Type} (K:Env) (hK:Co E K) (F:α0→α1→Value→Env) (Ii:α0→α1→Value→C1) (C:α0→α1→Prop) (μ:α0→α1→Nat) {c:Code} (JW:α0) (NM:α1) (Vn:Value) (h0:C JW NM) (hs:Co E (F JW NM Vn)) (hI:∀M w,I.h M w→(Ii JW NM Vn).h M w)
  (round:∀x0 x1 v0,C x0 x1→Tr L n (F x0 x1 v0++K) (Ii x0 x1 v0) c (Exit.then (fun a w=>∃ED FH JX,(C ED FH∧μ ED FH<μ x0 x1)∧St n (F ED FH JX++K) (Ii ED FH JX) a w) Q)):Tr L n E I (.loop c) Q:=
 Tr.NI K hK (fun y:α0×α1×Value=>F y.1 y.2.1 y.2.2) (fun y=>Ii y.1 y.2.1 y.2.2) (fun y=>C y.1 y.2.1) (fun y=>μ y.1 y.2.1) (JW,NM,Vn) h0 hs hI fun y hy=>
  Tr.post (round y.1 y.2.1 y.2.2 hy) fun e a w h=>by
   cases e<;>first|exact h|(obtain ⟨ED,FH,JX,h1,h2⟩:=h;exact ⟨(ED,FH,JX),h1,h2⟩)
theorem Fin.Bk {α0 α1:Type} {E1:α0→α1→Value→Env} {I1:α0→α1→Value→C1} {C:α0→α1→Prop} (x0:α0) (x1:α1) (v0:Value) (hC:C x0 x1) (hs:Co E (E1 x0 x1 v0)) (hI:∀M w,I.h M w→(I1 x0 x1 v0).h M w):
  Fin n E I (Exit.then (fun a w=>∃ED FH JX,C ED FH∧St n (E1 ED FH JX) (I1 ED FH JX) a w) Q) .normal:=fun _ _ hst=>⟨x0,x1,v0,hC,hst.sub hs hI⟩
theorem Tr.Kc {α0 α1 α2:Type} (K:Env) (hK:Co E K) (F:α0→α1→α2→Env) (Ii:α0→α1→α2→C1) (C:α0→α1→α2→Prop) (μ:α0→α1→α2→Nat) {c:Code} (JW:α0) (NM:α1) (Vp:α2)  (h0:C JW NM Vp) (hs:Co E (F JW NM Vp)) (hI:∀M w,I.h M w→(Ii JW NM Vp).h M w)
  (round:∀x0 x1 x2,C x0 x1 x2→Tr L n (F x0 x1 x2++K) (Ii x0 x1 x2) c (Exit.then (fun a w=>∃ED FH IY,(C ED FH IY∧μ ED FH IY<μ x0 x1 x2)∧St n (F ED FH IY++K) (Ii ED FH IY) a w) Q)):Tr L n E I (.loop c) Q:=
 Tr.NI K hK (fun y:α0×α1×α2=>F y.1 y.2.1 y.2.2) (fun y=>Ii y.1 y.2.1 y.2.2) (fun y=>C y.1 y.2.1 y.2.2) (fun y=>μ y.1 y.2.1 y.2.2) (JW,NM,Vp) h0 hs hI fun y hy=>
  Tr.post (round y.1 y.2.1 y.2.2 hy) fun e a w h=>by
   cases e<;>first|exact h|(obtain ⟨ED,FH,IY,h1,h2⟩:=h;exact ⟨(ED,FH,IY),h1,h2⟩)
theorem Fin.C4 {α0 α1 α2:Type} {E1:α0→α1→α2→Env} {I1:α0→α1→α2→C1} {C:α0→α1→α2→Prop} (x0:α0) (x1:α1) (x2:α2)  (hC:C x0 x1 x2) (hs:Co E (E1 x0 x1 x2)) (hI:∀M w,I.h M w→(I1 x0 x1 x2).h M w):
  Fin n E I (Exit.then (fun a w=>∃ED FH IY,C ED FH IY∧St n (E1 ED FH IY) (I1 ED FH IY) a w) Q) .normal:=fun _ _ hst=>⟨x0,x1,x2,hC,hst.sub hs hI⟩
theorem Tr.F4 {α0 α1 α2:Type} (K:Env) (hK:Co E K) (F:α0→α1→α2→Value→Env) (Ii:α0→α1→α2→Value→C1) (C:α0→α1→α2→Prop) (μ:α0→α1→α2→Nat) {c:Code} (JW:α0) (NM:α1) (Vp:α2) (Vn:Value) (h0:C JW NM Vp) (hs:Co E (F JW NM Vp Vn)) (hI:∀M w,I.h M w→(Ii JW NM Vp Vn).h M w)
  (round:∀x0 x1 x2 v0,C x0 x1 x2→Tr L n (F x0 x1 x2 v0++K) (Ii x0 x1 x2 v0) c (Exit.then (fun a w=>∃ED FH IY JX,(C ED FH IY∧μ ED FH IY<μ x0 x1 x2)∧St n (F ED FH IY JX++K) (Ii ED FH IY JX) a w) Q)):Tr L n E I (.loop c) Q:=
 Tr.NI K hK (fun y:α0×α1×α2×Value=>F y.1 y.2.1 y.2.2.1 y.2.2.2) (fun y=>Ii y.1 y.2.1 y.2.2.1 y.2.2.2) (fun y=>C y.1 y.2.1 y.2.2.1) (fun y=>μ y.1 y.2.1 y.2.2.1) (JW,NM,Vp,Vn) h0 hs hI fun y hy=>
  Tr.post (round y.1 y.2.1 y.2.2.1 y.2.2.2 hy) fun e a w h=>by
   cases e<;>first|exact h|(obtain ⟨ED,FH,IY,JX,h1,h2⟩:=h;exact ⟨(ED,FH,IY,JX),h1,h2⟩)
theorem Fin.EZ {α0 α1 α2:Type} {E1:α0→α1→α2→Value→Env} {I1:α0→α1→α2→Value→C1} {C:α0→α1→α2→Prop} (x0:α0) (x1:α1) (x2:α2) (v0:Value) (hC:C x0 x1 x2) (hs:Co E (E1 x0 x1 x2 v0)) (hI:∀M w,I.h M w→(I1 x0 x1 x2 v0).h M w):
  Fin n E I (Exit.then (fun a w=>∃ED FH IY JX,C ED FH IY∧St n (E1 ED FH IY JX) (I1 ED FH IY JX) a w) Q) .normal:=fun _ _ hst=>⟨x0,x1,x2,v0,hC,hst.sub hs hI⟩
theorem Tr.nP {α0 α1 α2 α3:Type} (K:Env) (hK:Co E K) (F:α0→α1→α2→α3→Value→Env) (Ii:α0→α1→α2→α3→Value→C1) (C:α0→α1→α2→α3→Prop) (μ:α0→α1→α2→α3→Nat) {c:Code} (JW:α0) (NM:α1) (Vp:α2) (x3s:α3) (Vn:Value) (h0:C JW NM Vp x3s) (hs:Co E (F JW NM Vp x3s Vn)) (hI:∀M w,I.h M w→(Ii JW NM Vp x3s Vn).h M w)
  (round:∀x0 x1 x2 x3 v0,C x0 x1 x2 x3→Tr L n (F x0 x1 x2 x3 v0++K) (Ii x0 x1 x2 x3 v0) c (Exit.then (fun a w=>∃ED FH IY TY JX,(C ED FH IY TY∧μ ED FH IY TY<μ x0 x1 x2 x3)∧St n (F ED FH IY TY JX++K) (Ii ED FH IY TY JX) a w) Q)):Tr L n E I (.loop c) Q:=
 Tr.NI K hK (fun y:α0×α1×α2×α3×Value=>F y.1 y.2.1 y.2.2.1 y.2.2.2.1 y.2.2.2.2) (fun y=>Ii y.1 y.2.1 y.2.2.1 y.2.2.2.1 y.2.2.2.2) (fun y=>C y.1 y.2.1 y.2.2.1 y.2.2.2.1) (fun y=>μ y.1 y.2.1 y.2.2.1 y.2.2.2.1) (JW,NM,Vp,x3s,Vn) h0 hs hI fun y hy=>
  Tr.post (round y.1 y.2.1 y.2.2.1 y.2.2.2.1 y.2.2.2.2 hy) fun e a w h=>by
   cases e<;>first|exact h|(obtain ⟨ED,FH,IY,TY,JX,h1,h2⟩:=h;exact ⟨(ED,FH,IY,TY,JX),h1,h2⟩)
theorem Fin.uV {α0 α1 α2 α3:Type} {E1:α0→α1→α2→α3→Value→Env} {I1:α0→α1→α2→α3→Value→C1} {C:α0→α1→α2→α3→Prop} (x0:α0) (x1:α1) (x2:α2) (x3:α3) (v0:Value) (hC:C x0 x1 x2 x3) (hs:Co E (E1 x0 x1 x2 x3 v0)) (hI:∀M w,I.h M w→(I1 x0 x1 x2 x3 v0).h M w):
  Fin n E I (Exit.then (fun a w=>∃ED FH IY TY JX,C ED FH IY TY∧St n (E1 ED FH IY TY JX) (I1 ED FH IY TY JX) a w) Q) .normal:=fun _ _ hst=>⟨x0,x1,x2,x3,v0,hC,hst.sub hs hI⟩
theorem Tr.nQ {α0 α1 α2 α3:Type} (K:Env) (hK:Co E K) (F:α0→α1→α2→α3→Value→Value→Env) (Ii:α0→α1→α2→α3→Value→Value→C1) (C:α0→α1→α2→α3→Prop) (μ:α0→α1→α2→α3→Nat) {c:Code} (JW:α0) (NM:α1) (Vp:α2) (x3s:α3) (Vn:Value) (v1s:Value) (h0:C JW NM Vp x3s) (hs:Co E (F JW NM Vp x3s Vn v1s)) (hI:∀M w,I.h M w→(Ii JW NM Vp x3s Vn v1s).h M w)
  (round:∀x0 x1 x2 x3 v0 v1,C x0 x1 x2 x3→Tr L n (F x0 x1 x2 x3 v0 v1++K) (Ii x0 x1 x2 x3 v0 v1) c (Exit.then (fun a w=>∃ED FH IY TY JX v1',(C ED FH IY TY∧μ ED FH IY TY<μ x0 x1 x2 x3)∧St n (F ED FH IY TY JX v1'++K) (Ii ED FH IY TY JX v1') a w) Q)):Tr L n E I (.loop c) Q:=
 Tr.NI K hK (fun y:α0×α1×α2×α3×Value×Value=>F y.1 y.2.1 y.2.2.1 y.2.2.2.1 y.2.2.2.2.1 y.2.2.2.2.2) (fun y=>Ii y.1 y.2.1 y.2.2.1 y.2.2.2.1 y.2.2.2.2.1 y.2.2.2.2.2) (fun y=>C y.1 y.2.1 y.2.2.1 y.2.2.2.1) (fun y=>μ y.1 y.2.1 y.2.2.1 y.2.2.2.1) (JW,NM,Vp,x3s,Vn,v1s) h0 hs hI fun y hy=>
  Tr.post (round y.1 y.2.1 y.2.2.1 y.2.2.2.1 y.2.2.2.2.1 y.2.2.2.2.2 hy) fun e a w h=>by
   cases e<;>first|exact h|(obtain ⟨ED,FH,IY,TY,JX,v1',h1,h2⟩:=h;exact ⟨(ED,FH,IY,TY,JX,v1'),h1,h2⟩)
theorem Fin.uW {α0 α1 α2 α3:Type} {E1:α0→α1→α2→α3→Value→Value→Env} {I1:α0→α1→α2→α3→Value→Value→C1} {C:α0→α1→α2→α3→Prop} (x0:α0) (x1:α1) (x2:α2) (x3:α3) (v0:Value) (v1:Value) (hC:C x0 x1 x2 x3) (hs:Co E (E1 x0 x1 x2 x3 v0 v1)) (hI:∀M w,I.h M w→(I1 x0 x1 x2 x3 v0 v1).h M w):
  Fin n E I (Exit.then (fun a w=>∃ED FH IY TY JX v1',C ED FH IY TY∧St n (E1 ED FH IY TY JX v1') (I1 ED FH IY TY JX v1') a w) Q) .normal:=fun _ _ hst=>⟨x0,x1,x2,x3,v0,v1,hC,hst.sub hs hI⟩
end
structure DS where
 l:List Int
 at_:Nat
 h:at_≤l.length
 h2:l.length≤1000000000
def DS.val (s:DS) (n:Int):Int:=match s.l[s.at_]? with|some x=>x % n|none=>0
def DS.Ci (s:DS):DS:=if h:s.at_<s.l.length then ⟨s.l,s.at_+1,h,s.h2⟩ else s
theorem DS.DK (s:DS) {n:Int} (hn:1≤n):0≤s.val n∧s.val n<n:=by
 unfold DS.val
 split
 · exact ⟨Int.emod_nonneg _ AA,Int.emod_lt_of_pos _ AA⟩
 · omega
theorem DS.uX {s:DS} (h:s.l.length≤s.at_) (n:Int):s.val n=0:=by
 unfold DS.val;rw [List.getElem?_eq_none h]
theorem DS.uY {s:DS} (h:s.l.length≤s.at_):s.Ci=s:=by
 unfold DS.Ci;rw [dif_neg AA]
theorem DS.zf {s:DS} {x:Int} (h:s.l[s.at_]? =some x) (n:Int):s.val n=x % n:=by
 unfold DS.val;rw [h]
theorem DS.zg {s:DS} (h:s.at_<s.l.length):s.Ci=⟨s.l,s.at_+1,h,s.h2⟩:=by
 unfold DS.Ci;rw [dif_pos h]
def OO (s:DS):List Pr:=[slice 1 (s.l.map fun n=>[int n]),int ((s.at_:Nat):Int)]
def Xc (T:TypeId) (b:Nat) (s:DS):At:=AF true b T (OO s)
def JY (T:TypeId) (b:Nat):At:=NL true b T (fun _:DS=>True) OO
def DS.of (s:DS) (l:List Int):Int:=(l[(s.val l.length).toNat]?).getD 0
theorem DS.OP (s:DS) {l:List Int} (h:l≠[]):s.of l∈l:=by
 have h0:1≤(l.length:Int):=by
  have:=List.length_pos_iff.2 h
  omega
 have:=s.DK h0
 unfold DS.of
 rw [List.getElem?_eq_getElem AA]
 exact List.getElem_mem _
section
variable {P:Program} {L:Lg P} {n:Fm} {fz:Nat} {E:Env} {M0:Av} {w0:World} {S:Nat→Prop} {rs:List At}
theorem Tr.UD {Q:Exit→Act→World→Prop} {c:Code} (i:Nat) (hi:rs[i]? =some (JY T b)) (k:∀s,Tr L n E (Hp M0 w0 S (rs.set i (Xc T b s))) c Q):Tr L n E (Hp M0 w0 S rs) c Q:=
 Tr.AC9 i hi fun s _=>k s
theorem Fin.UD {Q:Exit→Act→World→Prop} {e:Exit} (i:Nat) (hi:rs[i]? =some (JY T b)) (k:∀s,Fin n E (Hp M0 w0 S (rs.set i (Xc T b s))) Q e):Fin n E (Hp M0 w0 S rs) Q e:=by
 rintro a w ⟨M,h1,h2,h3,h4⟩
 have h4:A7 M0 w0 S rs M w:=h4
 obtain ⟨x,hx,hh⟩:=(h4.hold _ (List.mem_of_getElem? hi)).1
 exact k x a w ⟨M,h1,h2,h3,h4.Ce hi rfl rfl hh⟩
theorem Fin.HX {Q:Exit→Act→World→Prop} {e:Exit} (i:Nat) (s:DS) (hi:rs[i]? =some (AF true b T ps)) (hp:ps=OO s) (k:Fin n E (Hp M0 w0 S (rs.set i (JY T b))) Q e):Fin n E (Hp M0 w0 S rs) Q e:=
 Fin.OM i (fun _=>True) OO s trivial hi hp k
theorem Tr.HX {Q:Exit→Act→World→Prop} {c:Code} (i:Nat) (s:DS) (hi:rs[i]? =some (AF true b T ps)) (hp:ps=OO s) (k:Tr L n E (Hp M0 w0 S (rs.set i (JY T b))) c Q):Tr L n E (Hp M0 w0 S rs) c Q:=
 Tr.OM i (fun _=>True) OO s trivial hi hp k
theorem TO.LR {l:List Oper} {Q:Exit→Act→World→Prop} (s j:Nat) {f:Value→At} (g:Nat→At) (hs:E.lookup s=some (AV v (Cp.ex fun b=>ptr b 0))) (hi:rs[j]? =some (f v)) (hf:∀b,f (.pointer (some ⟨b,0,none⟩))=g b) (k:∀b,TO P n ops l ((s,ptr b 0)::E) (Hp M0 w0 S (rs.set j (g b))) Q):TO P n ops l E (Hp M0 w0 S rs) Q:=by
 intro k0 hl a w hst
 obtain ⟨M,h1,h2,he,h4⟩:=hst
 obtain ⟨h5,b,h6⟩:=he s _ hs
 have hv:v= .pointer (some ⟨b,0,none⟩):=by rw [←h5];exact h6
 have hj:rs.set j (g b)=rs:=by
  have hjl:j<rs.length:=by rcases Nat.lt_or_ge j rs.length with h|h;exact h;rw [List.getElem?_eq_none h] at hi;cases hi
  rw [←hf b,←hv]
  rw [List.getElem?_eq_getElem hjl] at hi
  simp at hi
  rw [←hi,List.set_getElem_self]
 refine k b k0 hl a w ⟨M,h1,h2,?_,by rw [hj];exact h4⟩
 intro t q hq
 simp only [List.lookup] at hq
 by_cases ht:t=s
 · subst ht;simp at hq;subst hq;exact h6
 · exact OC
def HY (r:ResultVar) (a:Act):Sem Value:=match r with| .tmp t=>pure (a.tmps.getD t undef)| .cell c t=>do loadVar t (←asAddr (a.tmps.getD c undef))
def AL (P:Program) (E:Env) (rs:List At) (r:ResultVar) (p:Pr):Prop:=∀(M:Av) (w:World) (a:Act),Fw M w E a→(∀q∈rs,q.h M w)→∃v,(HY r a).run P w= .ok v w∧p.h M w v
theorem AL.tmp {t:Tmp} (h:E.lookup t=some q) (hl:Pr.le q p):AL P E rs (.tmp t) p:=fun _ _ _ he _=>⟨_,rfl,hl _ _ _ (he _ _ h)⟩
theorem AL.cell (i:Nat) {c:Tmp} {new:Bool} (h:E.lookup c=some (ptr b 0)) (hi:rs[i]? =some (AF new b T ps)) (ht:Fy P t=true) (hz:A9 P t=some m) (hm:ps.length=m) (hl:Pr.le (agg ps) p):AL P E rs (.cell c t) p:=by
 intro M w a he hr
 obtain ⟨v,h1,h2⟩:=nJ ht hz hm (hr _ (List.mem_of_getElem? hi))
 refine ⟨v,?_,hl _ _ _ h2⟩
 have hc:a.tmps.getD c undef= .pointer (some ⟨b,0,none⟩):=he _ _ h
 unfold HY
 simp only [hc,asAddr]
 simpa [Sem.run_bind] using h1
theorem HZ (g:Func) (a:Act):results g a.tmps=(do let vs ←g.results.mapM (fun r=>HY r a);pure (if h:vs.size=1 then vs[0] else .tuple vs)):=by
 have:(fun r:ResultVar=>HY r a)=(fun| .tmp t=>pure (a.tmps.getD t undef)| .cell c t=>do loadVar t (←asAddr (a.tmps.getD c undef))):=by
  funext r;cases r<;>rfl
 rw [this];rfl
theorem results1 {g:Func} {r:ResultVar} {w:World} (hr:g.results= #[r]) (h:(HY r a).run P w= .ok v w):(results g a.tmps).run P w= .ok v w:=by
 rw [HZ,hr];simp [Sem.run_bind,h]
theorem results2 {g:Func} {r r':ResultVar} {w:World} {v':Value} (hr:g.results= #[r,r']) (h:(HY r a).run P w= .ok v w) (h':(HY r' a).run P w= .ok v' w):(results g a.tmps).run P w= .ok (.tuple #[v,v']) w:=by
 rw [HZ,hr];simp [Sem.run_bind,h,h']
theorem results3 {g:Func} {r r' r'':ResultVar} {w:World} {v' v'':Value} (hr:g.results= #[r,r',r'']) (h:(HY r a).run P w= .ok v w) (h':(HY r' a).run P w= .ok v' w) (h'':(HY r'' a).run P w= .ok v'' w):(results g a.tmps).run P w= .ok (.tuple #[v,v',v'']) w:=by
 rw [HZ,hr];simp [Sem.run_bind,h,h',h'']
theorem A7.QL {M:Av} {w:World}:∀{pre:List At},A7 M0 w0 S (pre++rs) M w→A7 M0 w0 S rs M w
 |[],h=>h
 |_::_,h=>A7.QL h.J0
variable {g:Func} {M1:Av} {w1:World}
theorem Fin.Cf {r:ResultVar} (hr:g.results= #[r]) (h:AL P E rs r q) (hl:Pr.le q p):Fin ⟨fz,[]⟩ E (Hp M0 w0 FO rs) (bodyPost P g (TS M0 w0 p)) .ret:=by
 rintro a w ⟨M,_,hd,he,hi⟩
 obtain ⟨v,hv,hp⟩:=h M w a he (fun q hq=>(hi.hold q hq).1)
 obtain ⟨h1,h2⟩:=Bv.EU M0 w0 M w hi
 exact ⟨hd,v,results1 hr hv,_,rfl,p.st _ _ _ _ _ (Ext.less h1) (hl _ _ _ hp),h2⟩
theorem Fin.BL {r r':ResultVar} {q':Pr} (hr:g.results= #[r,r']) (h:AL P E rs r q) (h':AL P E rs r' q') (hl:Pr.le (C_ [q,q']) p):Fin ⟨fz,[]⟩ E (Hp M0 w0 FO rs) (bodyPost P g (TS M0 w0 p)) .ret:=by
 rintro a w ⟨M,_,hd,he,hi⟩
 obtain ⟨v,hv,hp⟩:=h M w a he (fun q hq=>(hi.hold q hq).1)
 obtain ⟨v',nR,hp'⟩:=h' M w a he (fun q hq=>(hi.hold q hq).1)
 obtain ⟨h1,h2⟩:=Bv.EU M0 w0 M w hi
 exact ⟨hd,_,results2 hr hv nR,_,rfl,p.st _ _ _ _ _ (Ext.less h1) (hl _ _ _ ⟨[_,_],rfl,hp,hp',trivial⟩),h2⟩
theorem Fin.Fb {r r' r'':ResultVar} {q' nC:Pr} (hr:g.results= #[r,r',r'']) (h:AL P E rs r q) (h':AL P E rs r' q') (h'':AL P E rs r'' nC) (hl:Pr.le (C_ [q,q',nC]) p):Fin ⟨fz,[]⟩ E (Hp M0 w0 FO rs) (bodyPost P g (TS M0 w0 p)) .ret:=by
 rintro a w ⟨M,_,hd,he,hi⟩
 obtain ⟨v,hv,hp⟩:=h M w a he (fun q hq=>(hi.hold q hq).1)
 obtain ⟨v',nR,hp'⟩:=h' M w a he (fun q hq=>(hi.hold q hq).1)
 obtain ⟨v'',nS,nT⟩:=h'' M w a he (fun q hq=>(hi.hold q hq).1)
 obtain ⟨h1,h2⟩:=Bv.EU M0 w0 M w hi
 exact ⟨hd,_,results3 hr hv nR nS,_,rfl,p.st _ _ _ _ _ (Ext.less h1) (hl _ _ _ ⟨[_,_,_],rfl,hp,hp',nT,trivial⟩),h2⟩
theorem Fin.Gn (pre:List At) {r:ResultVar} {R':Value→At} (hr:g.results= #[r]) (h:AL P E (pre++R::Ai M1 w1::rs) r q) (hl:Pr.le q p) (hR:∀M w v,q.h M w v→R' v=R):
  Fin ⟨fz,[]⟩ E (Hp M0 w0 S (pre++R::Ai M1 w1::rs)) (bodyPost P g (NK M0 w0 S rs M1 w1 p R')) .ret:=by
 rintro a w ⟨M,_,hd,he,hi⟩
 obtain ⟨v,hv,hp⟩:=h M w a he (fun q hq=>(hi.hold q hq).1)
 obtain ⟨h1,h2⟩:=iz (A7.QL hi)
 exact ⟨hd,v,results1 hr hv,_,M,rfl,hl _ _ _ hp,h1,by rw [hR _ _ _ hp];exact h2⟩
theorem Fin.J2 (pre:List At) {r r':ResultVar} {q':Pr} (hr:g.results= #[r,r']) (h:AL P E (pre++R::Ai M1 w1::rs) r q) (h':AL P E (pre++R::Ai M1 w1::rs) r' q') (hl:Pr.le (C_ [q,q']) p):
  Fin ⟨fz,[]⟩ E (Hp M0 w0 S (pre++R::Ai M1 w1::rs)) (bodyPost P g (NK M0 w0 S rs M1 w1 p (fun _=>R))) .ret:=by
 rintro a w ⟨M,_,hd,he,hi⟩
 obtain ⟨v,hv,hp⟩:=h M w a he (fun q hq=>(hi.hold q hq).1)
 obtain ⟨v',nR,hp'⟩:=h' M w a he (fun q hq=>(hi.hold q hq).1)
 obtain ⟨h1,h2⟩:=iz (A7.QL hi)
 exact ⟨hd,_,results2 hr hv nR,_,M,rfl,hl _ _ _ ⟨[_,_],rfl,hp,hp',trivial⟩,h1,h2⟩
theorem Fin.yV (pre:List At) {r r' r'':ResultVar} {q' nC:Pr} (hr:g.results= #[r,r',r'']) (h:AL P E (pre++R::Ai M1 w1::rs) r q) (h':AL P E (pre++R::Ai M1 w1::rs) r' q') (h'':AL P E (pre++R::Ai M1 w1::rs) r'' nC) (hl:Pr.le (C_ [q,q',nC]) p):
  Fin ⟨fz,[]⟩ E (Hp M0 w0 S (pre++R::Ai M1 w1::rs)) (bodyPost P g (NK M0 w0 S rs M1 w1 p (fun _=>R))) .ret:=by
 rintro a w ⟨M,_,hd,he,hi⟩
 obtain ⟨v,hv,hp⟩:=h M w a he (fun q hq=>(hi.hold q hq).1)
 obtain ⟨v',nR,hp'⟩:=h' M w a he (fun q hq=>(hi.hold q hq).1)
 obtain ⟨v'',nS,nT⟩:=h'' M w a he (fun q hq=>(hi.hold q hq).1)
 obtain ⟨h1,h2⟩:=iz (A7.QL hi)
 exact ⟨hd,_,results3 hr hv nR nS,_,M,rfl,hl _ _ _ ⟨[_,_,_],rfl,hp,hp',nT,trivial⟩,h1,h2⟩
theorem Az {α:Type} {p:α→Pr} (x:α) (h:Pr.le q (p x)):Pr.le q (Cp.ex p):=fun M w v hv=>⟨x,h M w v hv⟩
theorem BC {φ:Prop} (hφ:φ) (h:Pr.le q p):Pr.le q (fact φ p):=fun M w v hv=>⟨hφ,h M w v hv⟩
end
section
variable {P:Program} {L:Lg P} {n:Fm} {fz:Nat} {E:Env} {M0:Av} {w0:World} {S:Nat→Prop} {rs:List SR} {o:Oper}
theorem Fc {q:Tmp} {new:Bool} {off:Nat} [One p] (hg:o.guard=none) (hd:o.dst=none) (ho:o.op= .store t x (.tmp q)) (hx:VL E x (ptr b off)) (hy:E.lookup q=some p) (hz:A9 P t=some 1) (hl:off+1≤ps.length):DH P M0 w0 S n j (SR.c (AF new b T ps)) ⟨q,fun v=>AF new b T (ps.take off++[AV v p]++ps.drop (off+1))⟩ o E any:=by
 refine ⟨hg,fun M w a rs hsz he hI hj=> ?_⟩
 have h1:a.eval x= .pointer (some ⟨b,off,none⟩):=hx.ev he Au
 have hv:VL E (.tmp q) p:=⟨_,hy,Pr.le_refl _⟩
 have hp:=hv.ev he (show (Operand.tmp q)∈o.op.operands.toList by simp [ho,Op.operands])
 obtain ⟨h2,h3⟩:=(VL.le hv (Ag p)).ev he (show (Operand.tmp q)∈o.op.operands.toList by simp [ho,Op.operands])
 obtain ⟨⟨_,cs,h4,h5,h6⟩,_⟩:=hI.hold _ (List.mem_of_getElem? hj)
 have h5l:=h5.length
 have h2l:=h2.length
 have hone:(a.eval (.tmp q)).cells= #[a.eval (.tmp q)]:=(One.one (p:=p) M w _ hp).1
 have h2':HL M w [AV (a.eval (.tmp q)) p] (a.eval (.tmp q)).cells.toList:=by rw [hone];exact ⟨⟨rfl,hp⟩,trivial⟩
 have hcells:(a.eval (.tmp q)).cells.size=1:=by rw [hone];rfl
 have hrun:(storeCells ⟨b,off,none⟩ (a.eval (.tmp q)).cells.toList 0).run P w= .ok () (w.setRow b (cs.take off++(a.eval (.tmp q)).cells.toList++cs.drop (off+1)).toArray):=by
  have:=run_storeCells_at (P:=P) b off T (a.eval (.tmp q)).cells.toList 0 cs.toArray w h4 (by simp [hcells];omega) h3
  simpa [hcells] using this
 have Ee:(execOp a.eval o).run P w= .ok .skip (w.setRow b (cs.take off++(a.eval (.tmp q)).cells.toList++cs.drop (off+1)).toArray):=by
  simp [execOp,ho,h1,Instr.storeAt,Instr.sureAddr,storeVar,C7 hz,hcells,hrun]
 rw [Ee]
 obtain ⟨h7, h8⟩ := A7.write (qs := ps.take off ++ [AV (a.eval (.tmp q)) p] ++ ps.drop (off + 1)) (cs := cs.take off ++ (a.eval (.tmp q)).cells.toList ++ cs.drop (off + 1)) hI hj ((((h5.take off).app h2')).app (h5.drop (off + 1)))
  (fun c hc=>by
   simp only [List.mem_append] at hc
   rcases hc with (hc|hc)|hc
   · grind
   · exact h3 c hc
   · exact h6 c (List.mem_of_mem_drop hc))
 refine ⟨M,trivial,h8,?_⟩
 have hput:SR.at_ (a.put o.dst undef) ⟨q,fun v=>AF new b T (ps.take off++[AV v p]++ps.drop (off+1))⟩=AF new b T (ps.take off++[AV (a.eval (.tmp q)) p]++ps.drop (off+1)):=by rw [hd];rfl
 rw [hput];exact h7
theorem nU {s:Nat} {f:Value→At} (hR:rs[j]? =some ⟨s,f⟩) (a:Act):(rs.set j (SR.c (f (a.tmps.getD s undef)))).map (·.at_ a)=rs.map (·.at_ a):=by
 rw [List.map_set]
 apply List.ext_getElem?
 intro i
 rw [List.getElem?_set]
 by_cases hij:j=i
 ·
  subst hij
  rw [if_pos rfl]
  split
  · rw [List.getElem?_map,hR];rfl
  · grind
 · rw [if_neg hij]
theorem Aw.PF {Q:Exit→Act→World→Prop} (j i s:Nat) {f g:Value→At} (hR:rs[j]? =some ⟨s,f⟩) (hR':rs[i]? =some ⟨s,g⟩) (hij:j≠i) (hs:E.lookup s=some p) (k:∀v,Aw n M0 w0 S ((s,AV v p)::E) ((rs.set j (SR.c (f v))).set i (SR.c (g v))) Q):Aw n M0 w0 S E rs Q:=by
 rintro a w ⟨M,h1,h2,h3,h4⟩
 refine k (a.tmps.getD s undef) a w ⟨M,h1,h2,?_,?_⟩
 ·
  intro t q hq
  simp only [List.lookup] at hq
  by_cases ht:t=s
  · exact dQ
  · rw [show (t==s)=false by simpa using ht] at hq;exact h3 t q hq
 · rw [nU (rs:=rs.set j (SR.c (f (a.tmps.getD s undef)))) (j:=i) (s:=s) (f:=g) (by rw [List.getElem?_set,if_neg hij];exact hR') a,nU hR a];exact h4
end
section
variable {P:Program} {L:Lg P} {n:Fm} {fz:Nat} {E:Env} {M0:Av} {w0:World} {S:Nat→Prop} {rs:List At}
theorem St.G9 (j:Nat) {new:Bool} (hi:rs[j]? =some (AF new b T ps)) (h:Rd ps qs) {w:World} (hs:St n E (Hp M0 w0 S rs) a w):St n E (Hp M0 w0 S (rs.set j (AF new b T qs))) a w:=by
 obtain ⟨M,h1,h2,h3,h4⟩:=hs
 have h4:A7 M0 w0 S rs M w:=h4
 obtain ⟨h5,cs,h6,h7,h8⟩:=(h4.hold _ (List.mem_of_getElem? hi)).1
 exact ⟨M,h1,h2,h3,h4.Ce hi rfl rfl ⟨h5,cs,h6,h.hl h7,h8⟩⟩
theorem Tr.G9 {Q:Exit→Act→World→Prop} {c:Code} (j:Nat) {new:Bool} (qs:List Pr) (hi:rs[j]? =some (AF new b T ps)) (h:Rd ps qs) (k:Tr L n E (Hp M0 w0 S (rs.set j (AF new b T qs))) c Q):Tr L n E (Hp M0 w0 S rs) c Q:=
 Tr.conv (fun _ _ hs=>hs.G9 j hi h) k
theorem Fin.G9 {Q:Exit→Act→World→Prop} {e:Exit} (j:Nat) {new:Bool} (qs:List Pr) (hi:rs[j]? =some (AF new b T ps)) (h:Rd ps qs) (k:Fin n E (Hp M0 w0 S (rs.set j (AF new b T qs))) Q e):Fin n E (Hp M0 w0 S rs) Q e:=
 Fin.conv (fun _ _ hs=>hs.G9 j hi h) k
end
section
variable {P:Program} {L:Lg P} {n:Fm} {fz:Nat} {E:Env} {M0:Av} {w0:World} {S:Nat→Prop} {rs:List At}
abbrev KE (m b:Nat):Value:= .slice (some ⟨b,0,none⟩) m m
theorem TO.Vq {r:List Oper} {Q:Exit→Act→World→Prop} {d i_:Nat} {y:Operand} {z:Value} (hg:o.guard=none) (hd:o.dst=some d) (hn:d<n) (ho:o.op= .makeSlice t x y) (ht:P.underlying t=some (.slice e)) (hs:A9 P e=some 1) (hby:B1 P e=some i_) (hz:BZ P e=some [z]) (h1:z.oneCell'=true) (hx:VL E x (int ((m:Nat):Int))) (hy:VL E y (int ((m:Nat):Int))) (hm:m≤maxLen) (hb:i_*m≤281474976710656) (k:∀b,TO P n ops r ((d,is (KE m b))::E) (Hp M0 w0 S (AF true b e ((List.replicate m z).map is)::rs)) Q):TO P n ops (o::r) E (Hp M0 w0 S rs) Q:=
 TO.ir hg fun K M w a hsz hdf he hI hK=>by
  have hx1:a.eval x= .int .i64 m:=hx.ev (o:=o) (Cj he) Au
  have hy1:a.eval y= .int .i64 m:=hy.ev (o:=o) (Cj he) Au
  have hi:∃i,P.info? e=some i∧i.size=1∧i.bytes=i_∧∃z',i.zero=some z'∧z'.cells= #[z]:=by
   unfold A9 at hs;unfold B1 at hby;unfold BZ at hz
   cases hi:P.info? e with
   |none=>rw [hi] at hs;cases hs
   |some i=>
    rw [hi] at hs hby hz
    simp at hs hby hz
    obtain ⟨z',h2,h3⟩:=hz
    exact ⟨i,rfl,hs,hby,z',h2,by rw [←Array.toList_inj,h3]⟩
  obtain ⟨i,hi,hi1,hi2,z',Ex,JN⟩:=hi
  have hmk:madeCells z'.cells m=(List.replicate m z).toArray:=by
   rw [JN]
   apply Array.ext
   · simp [madeCells]
   ·
    intro j h1 h2
    simp [madeCells,Nat.mod_one]
  have hrun:=run_make (P:=P) w t e i z' ht hi Ex .i64 .i64 (m:Int) (m:Int) AA (Int.le_refl _) (by rw [hi2];have h0:((i_*m:Nat):Int)≤281474976710656:=Int.ofNat_le.2 hb;rw [←Int.natCast_mul];exact h0) VY
  rw [hi1] at hrun
  simp only [Int.toNat_natCast,Nat.mul_one] at hrun
  rw [hmk] at hrun
  refine TO.val (v:=KE m w.heap.size) (w':=w.alloc (.cells (List.replicate m z).toArray e)) ?_ ?_
  · simp [execOp,ho,hx1,hy1,hrun]
  ·
   obtain ⟨h2,h3⟩:=A7.add (T:=e) hI (KV M w (List.replicate m z)) (fun c hc=>by rw [List.eq_of_mem_replicate hc];exact h1)
   refine hK _ _ _ _ (k w.heap.size) ⟨_,by rw [CB];exact hsz,by rw [put_defers];exact hdf,?_,h2⟩
   intro s p hp
   simp only [List.lookup] at hp
   by_cases hs:s=d
   · exact RI
   ·
    rw [show (s==d)=false by simpa using hs] at hp
    rw [hd,BW hs]
    exact p.st _ _ _ _ _ h3 (he s p hp)
theorem BI {I:C1} {y:Operand} {k:IntKind} {i:Int} {len cap sz off:Nat} (ho:o.op= .indexAddr t x y) (ht:P.underlying t=some (.slice e)) (hz:A9 P e=some sz) (hx:VL E x (is (.slice (some ⟨b,off,none⟩) len cap))) (hy:VL E y (is (.int k i))) (h0:0≤i) (hl:i<len):Ac P I o E (ptr b (off+i.toNat*sz)):=
 Ac.same fun M w a he _=>by
  have h1:a.eval x=_:=hx.ev he Au
  have h5:a.eval y= .int k i:=hy.ev he Au
  refine ⟨_,?_,rfl⟩
  simp [execOp,ho,h1,h5,Instr.indexAt,asIntOf,run_underlying ht,C7 hz,h0,hl,F1]
def D6 (e:TypeId):List Nat→List (List Pr)→List At
 |b::bs,r::GD=>AF true b e r::D6 e bs GD
 |_,_=>[]
theorem UE {e:TypeId} {b:Nat} {r:List Pr}:∀{bs:List Nat} {GD:List (List Pr)},bs.length=GD.length→(D6 e (bs++[b]) (GD++[r])).Perm (AF true b e r::D6 e bs GD)
 |[],[],_=>List.Perm.refl _
 |c::bs,q::GD,h=>((UE EJ).cons _).trans (List.Perm.swap _ _ _)
 |[],_::_,h=>by simp at h
 |_::_,[],h=>by simp at h
theorem Vr {e:TypeId} {b:Nat} (r':List Pr):∀{i:Nat} {bs:List Nat} {GD:List (List Pr)},bs.length=GD.length→bs[i]? =some b→(D6 e bs (GD.set i r')).Perm (AF true b e r'::D6 e (bs.eraseIdx i) (GD.eraseIdx i))
 |0,c::bs,q::GD,_,hb=>by simp at hb;subst hb;exact List.Perm.refl _
 |i+1,c::bs,q::GD,h,hb=>((Vr r' EJ HD).cons _).trans (List.Perm.swap _ _ _)
 |_,[],[],_,hb=>by simp at hb
 |_,[],_::_,h,_=>by simp at h
 |_,_::_,[],h,_=>by simp at h
theorem nV {r:List Pr} {bs:List Nat} {GD:List (List Pr)} (h:bs.length=GD.length) (hb:bs[i]? =some b) (hr:GD[i]? =some r):(D6 e bs GD).Perm (AF true b e r::D6 e (bs.eraseIdx i) (GD.eraseIdx i)):=by
 have:=Vr (e:=e) r h hb
 rwa [show GD.set i r=GD by
  have hl:i<GD.length:=by grind
  rw [List.getElem?_eq_getElem hl] at hr;simp at hr;rw [←hr,List.set_getElem_self]] at this
theorem Tr.perm {Q:Exit→Act→World→Prop} {c:Code} (hp:rs.Perm rs') (k:Tr L n E (Hp M0 w0 S rs') c Q):Tr L n E (Hp M0 w0 S rs) c Q:=
 Tr.conv (fun _ _ ⟨M,h1,h2,h3,h4⟩=>⟨M,h1,h2,h3,A7.perm hp h4⟩) k
theorem Fin.perm {Q:Exit→Act→World→Prop} {ex:Exit} (hp:rs.Perm rs') (k:Fin n E (Hp M0 w0 S rs') Q ex):Fin n E (Hp M0 w0 S rs) Q ex:=
 Fin.conv (fun _ _ ⟨M,h1,h2,h3,h4⟩=>⟨M,h1,h2,h3,A7.perm hp h4⟩) k
theorem A7.QM {w:World} (h4:A7 M0 w0 S (AF true b T ps::rs) M w):∃M',A7 M0 w0 S rs M' w∧Ext M w M' w∧Row M' w ⟨b,0,none⟩ 0 ps:=by
 obtain ⟨⟨hm,cs,hh,hc,hone⟩,hbb⟩:=h4.hold _ (List.mem_cons_self ..)
 obtain ⟨hlt,hnew⟩:=hbb b rfl
 have hnew:w0.heap.size≤b:=by simpa [AF] using hnew
 have he:Ext M w (fun b' o=>M b' o∧b'≠b) w:=Ext.less fun _ _ h=>h.1
 obtain ⟨AHU,AHV⟩:=List.pairwise_cons.1 h4.nd
 refine ⟨fun b' o=>M b' o∧b'≠b,⟨h4.m0,fun b' o' hm'=>⟨h4.m b' o' hm',fun e=> ?_⟩,h4.os,h4.tape,h4.output,h4.size,h4.block,fun b' o' hm'=>h4.bd b' o' hm'.1,fun r hr=> ?_,AHV⟩,he,fun j p hp=> ?_⟩
 ·
  subst e
  have:=h4.m0 _ _ hm'
  omega
 ·
  obtain ⟨h5,h6⟩:=h4.hold r (List.mem_cons_of_mem _ hr)
  exact ⟨r.st _ _ _ _ he (fun b' hb'=>⟨rfl,fun o' hmo=>⟨hmo,fun e=>AHU r hr b rfl (by rw [←e];exact hb')⟩⟩) h5,h6⟩
 ·
  obtain ⟨u,hu,hpu⟩:=hc.at_ j p hp
  refine ⟨u,?_,fun hx=>hx.2 rfl,hone u (List.mem_of_getElem? hu),p.st _ _ _ _ _ he hpu⟩
  rw [show Addr.add ⟨b,0,none⟩ (0+j)=⟨b,j,none⟩ by unfold Addr.add;split<;>simp_all]
  simp [World.cell?,hh,hu]
theorem A7.GO {e:TypeId} {w:World}:∀{bs:List Nat} {GD:List (List Pr)} {M:Av},bs.length=GD.length→A7 M0 w0 S (D6 e bs GD++rs) M w→∃M',A7 M0 w0 S rs M' w∧Ext M w M' w∧∀(i:Nat) b r,bs[i]? =some b→GD[i]? =some r→Row M' w ⟨b,0,none⟩ 0 r
 |[],[],M,_,h=>⟨M,h,Ext.refl _ _,fun i b r hb=>by simp at hb⟩
 |c::bs,q::GD,M,hl,h=>by
  obtain ⟨M1,h1,h2,h3⟩:=A7.QM (rs:=D6 e bs GD++rs) h
  obtain ⟨M2,h4,h5,h6⟩:=A7.GO (by simpa using hl) h1
  refine ⟨M2,h4,h2.trans h5,fun i b r hb hr=> ?_⟩
  cases i with
  |zero=>simp at hb hr;subst hb;subst hr;exact h3.st h5
  |succ i=>exact h6 i b r HD (by simpa using hr)
 |[],_::_,_,h,_=>by simp at h
 |_::_,[],_,h,_=>by simp at h
theorem St.GO {bs:List Nat} {GD:List (List Pr)} {s:Nat} (hl:bs.length=GD.length) (hm:m≤maxLen) (hr:∀r∈GD,r.length=m) (hs:E.lookup s=some q) (hq:Pr.le q (slice 1 (bs.map fun b=>[is (KE m b)]))) {w:World} (h:St n E (Hp M0 w0 S (D6 e bs GD++rs)) a w):St n ((s,slice 1 (GD.map fun r=>[slice 1 (r.map fun p=>[p])]))::E) (Hp M0 w0 S rs) a w:=by
 obtain ⟨M,h1,h2,h3,h4⟩:=h
 obtain ⟨M',h5,h6,h7⟩:=A7.GO hl h4
 refine ⟨M',h1,h2,?_,h5⟩
 intro t p hp
 simp only [List.lookup] at hp
 by_cases ht:t=s
 ·
  subst ht
  simp at hp
  subst hp
  obtain ⟨A,cap,h8,h9,h10,h11,h12⟩:=(slice 1 (bs.map fun b=>[is (KE m b)])).st _ _ _ _ _ h6 (hq _ _ _ (h3 t _ hs))
  refine ⟨A,cap,by rw [h8];simp [hl],by simpa [hl] using h9,h10,h11,fun i row hrow=> ?_⟩
  rw [List.getElem?_map] at hrow
  cases htb:GD[i]? with
  |none=>rw [htb] at hrow;cases hrow
  |some r=>
   rw [htb] at hrow
   simp at hrow
   subst hrow
   have Gm:i<bs.length:=by grind
   obtain ⟨_,ad,OQ,NN⟩:=h12 i [is (KE m bs[i])] (by rw [List.getElem?_map,List.getElem?_eq_getElem Gm];rfl)
   refine ⟨rfl,ad,OQ,fun j p hp=> ?_⟩
   have hj:j=0:=by grind
   subst hj
   simp at hp
   subst hp
   obtain ⟨u,XG,h16,N7,OR⟩:=NN 0 _ rfl
   refine ⟨u,XG,h16,N7,?_⟩
   have hu:u=KE m bs[i]:=OR
   have hrl:=hr r (List.mem_of_getElem? htb)
   refine ⟨some ⟨bs[i],0,none⟩,m,by rw [hu];simp [hrl],by simp [hrl],hm,by simp,fun x row hx=> ?_⟩
   rw [List.getElem?_map] at hx
   cases hrx:r[x]? with
   |none=>rw [hrx] at hx;cases hx
   |some p=>
    rw [hrx] at hx
    simp at hx
    subst hx
    refine ⟨rfl,⟨bs[i],0,none⟩,rfl,fun y p' hy=> ?_⟩
    have hy0:y=0:=by grind
    subst hy0
    simp at hy
    subst hy
    have:=h7 i _ r (List.getElem?_eq_getElem Gm) htb x p hrx
    simpa using this
 ·
  rw [show (t==s)=false by simpa using ht] at hp
  exact p.st _ _ _ _ _ h6 (h3 t p hp)
theorem Tr.GO {Q:Exit→Act→World→Prop} {c:Code} {bs:List Nat} {GD:List (List Pr)} (s:Nat) (hl:bs.length=GD.length) (hm:m≤maxLen) (hr:∀r∈GD,r.length=m) (hs:E.lookup s=some q) (hq:Pr.le q (slice 1 (bs.map fun b=>[is (KE m b)]))) (k:Tr L n ((s,slice 1 (GD.map fun r=>[slice 1 (r.map fun p=>[p])]))::E) (Hp M0 w0 S rs) c Q):Tr L n E (Hp M0 w0 S (D6 e bs GD++rs)) c Q:=
 Tr.conv (fun _ _ h=>h.GO hl hm hr hs hq) k
theorem Tr.Xd {Q:Exit→Act→World→Prop} {c:Code} {bs:List Nat} {GD:List (List Pr)} (s:Nat) (hl:bs.length=GD.length) (hm:m≤maxLen) (hr:∀r∈GD,r.length=m) (hs:E.lookup s=some q) (hq:Pr.le q (slice 1 (bs.map fun b=>[is (KE m b)]))) (k:Tr L n ((s,slice 1 (GD.map fun r=>[slice 1 (r.map fun p=>[p])]))::E) (Hp M0 w0 S []) c Q):Tr L n E (Hp M0 w0 S (D6 e bs GD)) c Q:=by grind [Tr.conv,St.GO]
end
end Cp
namespace Go.Proofs.YtmocaapoeefgkaaGreatDoor
open Go Cp
theorem mixed:Tryz.prog.follows .mixedOrders=true:=by kernel_rfl
theorem sz1:A9 Tryz.prog 1=some 1:=by kernel_rfl
theorem z1:BZ Tryz.prog 1=some [.nilFunc]:=by kernel_rfl
theorem sz2:A9 Tryz.prog 2=some 1:=by kernel_rfl
theorem z2:BZ Tryz.prog 2=some [.int .i64 0]:=by kernel_rfl
theorem Bi:A9 Tryz.prog 3=some 1:=by kernel_rfl
theorem DL:En Tryz.prog 3=true:=by kernel_rfl
theorem G_:B1 Tryz.prog 3=some 8:=by kernel_rfl
theorem zo3:([.int .i64 0]:List Value).all (·.oneCell')=true:=by kernel_rfl
theorem z3:BZ Tryz.prog 3=some [.int .i64 0]:=by kernel_rfl
theorem UF:A9 Tryz.prog 4=some 1:=by kernel_rfl
theorem jA:En Tryz.prog 4=true:=by kernel_rfl
theorem by4:B1 Tryz.prog 4=some 1:=by kernel_rfl
theorem zo4:([.bool false]:List Value).all (·.oneCell')=true:=by kernel_rfl
theorem z4:BZ Tryz.prog 4=some [.bool false]:=by kernel_rfl
theorem OS:A9 Tryz.prog 5=some 1:=by kernel_rfl
theorem AC_:En Tryz.prog 5=true:=by kernel_rfl
theorem ec:B1 Tryz.prog 5=some 1:=by kernel_rfl
theorem zo5:([.int .u8 0]:List Value).all (·.oneCell')=true:=by kernel_rfl
theorem z5:BZ Tryz.prog 5=some [.int .u8 0]:=by kernel_rfl
theorem z6:BZ Tryz.prog 6=some [.int .u8 0]:=by kernel_rfl
theorem O6:A9 Tryz.prog 9=some 1:=by kernel_rfl
theorem Ri:En Tryz.prog 9=true:=by kernel_rfl
theorem by9:B1 Tryz.prog 9=some 16:=by kernel_rfl
theorem zo9:([.string (ByteArray.mk #[])]:List Value).all (·.oneCell')=true:=by kernel_rfl
theorem z9:BZ Tryz.prog 9=some [.string (ByteArray.mk #[])]:=by kernel_rfl
theorem z12:BZ Tryz.prog 12=some [.int .u64 0]:=by kernel_rfl
theorem z13:BZ Tryz.prog 13=some [.string (ByteArray.mk #[]),.int .u64 0]:=by kernel_rfl
theorem z18:BZ Tryz.prog 18=some [.pointer none]:=by kernel_rfl
theorem z19:BZ Tryz.prog 19=some [.pointer none]:=by kernel_rfl
theorem z20:BZ Tryz.prog 20=some [.nilIface]:=by kernel_rfl
theorem NO:A9 Tryz.prog 22=some 1:=by kernel_rfl
theorem ej:En Tryz.prog 22=true:=by kernel_rfl
theorem AHW:B1 Tryz.prog 22=some 24:=by kernel_rfl
theorem z22:BZ Tryz.prog 22=some [.slice none 0 0]:=by kernel_rfl
theorem z24:BZ Tryz.prog 24=some [.nilFunc]:=by kernel_rfl
theorem ADA:A9 Tryz.prog 27=some 1:=by kernel_rfl
theorem eo:En Tryz.prog 27=true:=by kernel_rfl
theorem AHX:A9 Tryz.prog 28=some 1:=by kernel_rfl
theorem yW:En Tryz.prog 28=true:=by kernel_rfl
theorem zh:A9 Tryz.prog 29=some 1:=by kernel_rfl
theorem ADB:En Tryz.prog 29=true:=by kernel_rfl
theorem F5:A9 Tryz.prog 31=some 3:=by kernel_rfl
theorem Gp:Fy Tryz.prog 31=true:=by kernel_rfl
theorem ADC:∀ps,Tryz.prog.built 31 ps=Instr.fill (fun i=>(#[(0,1),(1,1),(2,1)]:Array (Nat×Nat))[i]?) ((List.replicate 3 (.slice none 0 0)):List Value).toArray ps:=by intro ps;kernel_rfl
theorem Iw:((List.replicate 3 (.slice none 0 0)):List Value).all (·.oneCell')=true:=by kernel_rfl
theorem z31:BZ Tryz.prog 31=some (List.replicate 3 (.slice none 0 0)):=by kernel_rfl
theorem Rj:Ab Tryz.prog 31 0=some 0:=by kernel_rfl
theorem nW:Ab Tryz.prog 31 1=some 1:=by kernel_rfl
theorem Vs:Ab Tryz.prog 31 2=some 2:=by kernel_rfl
theorem zi:A9 Tryz.prog 32=some 1:=by kernel_rfl
theorem ADD:En Tryz.prog 32=true:=by kernel_rfl
theorem ADE:A9 Tryz.prog 33=some 1:=by kernel_rfl
theorem nX:En Tryz.prog 33=true:=by kernel_rfl
theorem CU:A9 Tryz.prog 35=some 3:=by kernel_rfl
theorem Da:Fy Tryz.prog 35=true:=by kernel_rfl
theorem nY:∀ps,Tryz.prog.built 35 ps=Instr.fill (fun i=>(#[(0,1),(1,1),(2,1)]:Array (Nat×Nat))[i]?) ((List.replicate 3 (.slice none 0 0)):List Value).toArray ps:=by intro ps;kernel_rfl
theorem Gq:((List.replicate 3 (.slice none 0 0)):List Value).all (·.oneCell')=true:=by kernel_rfl
theorem z35:BZ Tryz.prog 35=some (List.replicate 3 (.slice none 0 0)):=by kernel_rfl
theorem Vt:Ab Tryz.prog 35 0=some 0:=by kernel_rfl
theorem Rk:Ab Tryz.prog 35 1=some 1:=by kernel_rfl
theorem Z4:Ab Tryz.prog 35 2=some 2:=by kernel_rfl
theorem z37:BZ Tryz.prog 37=some [.nilFunc]:=by kernel_rfl
theorem zj:A9 Tryz.prog 38=some 1:=by kernel_rfl
theorem yX:En Tryz.prog 38=true:=by kernel_rfl
theorem CS:A9 Tryz.prog 40=some 9:=by kernel_rfl
theorem DC:Fy Tryz.prog 40=true:=by kernel_rfl
theorem zk:B1 Tryz.prog 40=some 144:=by kernel_rfl
theorem uZ:∀ps,Tryz.prog.built 40 ps=Instr.fill (fun i=>(#[(0,1),(1,1),(2,1),(3,1),(4,1),(5,1),(6,1),(7,1),(8,1)]:Array (Nat×Nat))[i]?) ([.string (ByteArray.mk #[]),.int .i64 0,.int .i64 0,.slice none 0 0,.bool false,.slice none 0 0,.slice none 0 0,.slice none 0 0,.bool false]:List Value).toArray ps:=by intro ps;kernel_rfl
theorem Hx:([.string (ByteArray.mk #[]),.int .i64 0,.int .i64 0,.slice none 0 0,.bool false,.slice none 0 0,.slice none 0 0,.slice none 0 0,.bool false]:List Value).all (·.oneCell')=true:=by kernel_rfl
theorem z40:BZ Tryz.prog 40=some [.string (ByteArray.mk #[]),.int .i64 0,.int .i64 0,.slice none 0 0,.bool false,.slice none 0 0,.slice none 0 0,.slice none 0 0,.bool false]:=by kernel_rfl
theorem nZ:Ab Tryz.prog 40 0=some 0:=by kernel_rfl
theorem zl:Ab Tryz.prog 40 1=some 1:=by kernel_rfl
theorem ng:Ab Tryz.prog 40 2=some 2:=by kernel_rfl
theorem Vu:Ab Tryz.prog 40 3=some 3:=by kernel_rfl
theorem zm:Ab Tryz.prog 40 4=some 4:=by kernel_rfl
theorem Z5:Ab Tryz.prog 40 5=some 5:=by kernel_rfl
theorem nh:Ab Tryz.prog 40 6=some 6:=by kernel_rfl
theorem nj:Ab Tryz.prog 40 7=some 7:=by kernel_rfl
theorem zn:Ab Tryz.prog 40 8=some 8:=by kernel_rfl
theorem B7:A9 Tryz.prog 42=some 7:=by kernel_rfl
theorem CW:Fy Tryz.prog 42=true:=by kernel_rfl
theorem jB:∀ps,Tryz.prog.built 42 ps=Instr.fill (fun i=>(#[(0,3),(3,1),(4,1),(5,1),(6,1)]:Array (Nat×Nat))[i]?) ([.slice none 0 0,.slice none 0 0,.slice none 0 0,.int .i64 0,.slice none 0 0,.slice none 0 0,.bool false]:List Value).toArray ps:=by intro ps;kernel_rfl
theorem D7:([.slice none 0 0,.slice none 0 0,.slice none 0 0,.int .i64 0,.slice none 0 0,.slice none 0 0,.bool false]:List Value).all (·.oneCell')=true:=by kernel_rfl
theorem z42:BZ Tryz.prog 42=some [.slice none 0 0,.slice none 0 0,.slice none 0 0,.int .i64 0,.slice none 0 0,.slice none 0 0,.bool false]:=by kernel_rfl
theorem Z6:Ab Tryz.prog 42 0=some 0:=by kernel_rfl
theorem nk:Ab Tryz.prog 42 1=some 3:=by kernel_rfl
theorem nq:Ab Tryz.prog 42 2=some 4:=by kernel_rfl
theorem nr:Ab Tryz.prog 42 3=some 5:=by kernel_rfl
theorem zo:Ab Tryz.prog 42 4=some 6:=by kernel_rfl
theorem zq:A9 Tryz.prog 43=some 1:=by kernel_rfl
theorem ADF:En Tryz.prog 43=true:=by kernel_rfl
theorem z43:BZ Tryz.prog 43=some [.int .i64 0]:=by kernel_rfl
theorem HH:A9 Tryz.prog 51=some 1:=by kernel_rfl
theorem eu:En Tryz.prog 51=true:=by kernel_rfl
theorem Xe:B1 Tryz.prog 51=some 24:=by kernel_rfl
theorem ADG:([.slice none 0 0]:List Value).all (·.oneCell')=true:=by kernel_rfl
theorem z51:BZ Tryz.prog 51=some [.slice none 0 0]:=by kernel_rfl
theorem l9:BZ Tryz.prog 54=some [.nilFunc]:=by kernel_rfl
theorem DQ:A9 Tryz.prog 61=some 2:=by kernel_rfl
theorem Iy:Fy Tryz.prog 61=true:=by kernel_rfl
theorem OU:B1 Tryz.prog 61=some 16:=by kernel_rfl
theorem AHY:∀ps,Tryz.prog.built 61 ps=Instr.fill (fun i=>(#[(0,1),(1,1)]:Array (Nat×Nat))[i]?) ((List.replicate 2 (.int .i64 0)):List Value).toArray ps:=by intro ps;kernel_rfl
theorem Ta:((List.replicate 2 (.int .i64 0)):List Value).all (·.oneCell')=true:=by kernel_rfl
theorem QN:BZ Tryz.prog 61=some (List.replicate 2 (.int .i64 0)):=by kernel_rfl
theorem nu:Ab Tryz.prog 61 0=some 0:=by kernel_rfl
theorem nv:Ab Tryz.prog 61 1=some 1:=by kernel_rfl
theorem ADH:En Tryz.prog 75=true:=by kernel_rfl
theorem ADI:A9 Tryz.prog 77=some 3:=by kernel_rfl
theorem yY:Fy Tryz.prog 77=true:=by kernel_rfl
theorem AHZ:∀ps,Tryz.prog.built 77 ps=Instr.fill (fun i=>(#[(0,1),(1,1),(2,1)]:Array (Nat×Nat))[i]?) ((List.replicate 3 (.slice none 0 0)):List Value).toArray ps:=by intro ps;kernel_rfl
theorem ADJ:((List.replicate 3 (.slice none 0 0)):List Value).all (·.oneCell')=true:=by kernel_rfl
theorem z77:BZ Tryz.prog 77=some (List.replicate 3 (.slice none 0 0)):=by kernel_rfl
theorem zu:Ab Tryz.prog 77 0=some 0:=by kernel_rfl
theorem zv:Ab Tryz.prog 77 1=some 1:=by kernel_rfl
theorem zw:Ab Tryz.prog 77 2=some 2:=by kernel_rfl
theorem Lt:A9 Tryz.prog 81=some 2:=by kernel_rfl
theorem J3:Fy Tryz.prog 81=true:=by kernel_rfl
theorem zx:∀ps,Tryz.prog.built 81 ps=Instr.fill (fun i=>(#[(0,1),(1,1)]:Array (Nat×Nat))[i]?) ((List.replicate 2 (.int .i64 0)):List Value).toArray ps:=by intro ps;kernel_rfl
theorem Eo:((List.replicate 2 (.int .i64 0)):List Value).all (·.oneCell')=true:=by kernel_rfl
theorem LS:BZ Tryz.prog 81=some (List.replicate 2 (.int .i64 0)):=by kernel_rfl
theorem zy:Ab Tryz.prog 81 0=some 0:=by kernel_rfl
theorem zz:Ab Tryz.prog 81 1=some 1:=by kernel_rfl
theorem ADK:A9 Tryz.prog 82=some 1:=by kernel_rfl
theorem ADL:En Tryz.prog 82=true:=by kernel_rfl
theorem Ep:A9 Tryz.prog 84=some 4:=by kernel_rfl
theorem PG:Fy Tryz.prog 84=true:=by kernel_rfl
theorem jC:B1 Tryz.prog 84=some 48:=by kernel_rfl
theorem ADM:∀ps,Tryz.prog.built 84 ps=Instr.fill (fun i=>(#[(0,2),(2,1),(3,1)]:Array (Nat×Nat))[i]?) ([.int .i64 0,.int .i64 0,.int .i64 0,.slice none 0 0]:List Value).toArray ps:=by intro ps;kernel_rfl
theorem OV:([.int .i64 0,.int .i64 0,.int .i64 0,.slice none 0 0]:List Value).all (·.oneCell')=true:=by kernel_rfl
theorem Vv:BZ Tryz.prog 84=some [.int .i64 0,.int .i64 0,.int .i64 0,.slice none 0 0]:=by kernel_rfl
theorem z7:Ab Tryz.prog 84 0=some 0:=by kernel_rfl
theorem z8:Ab Tryz.prog 84 1=some 2:=by kernel_rfl
theorem nw:Ab Tryz.prog 84 2=some 3:=by kernel_rfl
theorem DB:A9 Tryz.prog 86=some 8:=by kernel_rfl
theorem GG:Fy Tryz.prog 86=true:=by kernel_rfl
theorem Xf:B1 Tryz.prog 86=some 80:=by kernel_rfl
theorem jD:∀ps,Tryz.prog.built 86 ps=Instr.fill (fun i=>(#[(0,1),(1,1),(2,1),(3,1),(4,4)]:Array (Nat×Nat))[i]?) ([.int .i64 0,.int .i64 0,.int .i64 0,.int .i64 0,.int .i64 0,.int .i64 0,.int .i64 0,.slice none 0 0]:List Value).toArray ps:=by intro ps;kernel_rfl
theorem JZ:([.int .i64 0,.int .i64 0,.int .i64 0,.int .i64 0,.int .i64 0,.int .i64 0,.int .i64 0,.slice none 0 0]:List Value).all (·.oneCell')=true:=by kernel_rfl
theorem NP:BZ Tryz.prog 86=some [.int .i64 0,.int .i64 0,.int .i64 0,.int .i64 0,.int .i64 0,.int .i64 0,.int .i64 0,.slice none 0 0]:=by kernel_rfl
theorem z_:Ab Tryz.prog 86 0=some 0:=by kernel_rfl
theorem AAA:Ab Tryz.prog 86 1=some 1:=by kernel_rfl
theorem AAB:Ab Tryz.prog 86 2=some 2:=by kernel_rfl
theorem AAC:Ab Tryz.prog 86 3=some 3:=by kernel_rfl
theorem AAD:Ab Tryz.prog 86 4=some 4:=by kernel_rfl
theorem uc:A9 Tryz.prog 99=some 1:=by kernel_rfl
theorem ADN:En Tryz.prog 99=true:=by kernel_rfl
theorem AHa:B1 Tryz.prog 99=some 24:=by kernel_rfl
theorem AHb:([.slice none 0 0]:List Value).all (·.oneCell')=true:=by kernel_rfl
theorem z99:BZ Tryz.prog 99=some [.slice none 0 0]:=by kernel_rfl
theorem ADO:∀ps,Tryz.prog.built 104 ps=Instr.fill (fun i=>(#[(0,1),(1,1)]:Array (Nat×Nat))[i]?) ([.slice none 0 0,.int .i64 0]:List Value).toArray ps:=by intro ps;kernel_rfl
theorem ADP:([.slice none 0 0,.int .i64 0]:List Value).all (·.oneCell')=true:=by kernel_rfl
theorem ud:Ab Tryz.prog 104 0=some 0:=by kernel_rfl
theorem ue:Ab Tryz.prog 104 1=some 1:=by kernel_rfl
theorem ADQ:A9 Tryz.prog 105=some 1:=by kernel_rfl
theorem AAE:En Tryz.prog 105=true:=by kernel_rfl
theorem B0:A9 Tryz.prog 107=some 1:=by kernel_rfl
theorem C2:Fy Tryz.prog 107=true:=by kernel_rfl
theorem ew:∀ps,Tryz.prog.built 107 ps=Instr.fill (fun i=>(#[(0,1)]:Array (Nat×Nat))[i]?) ([.slice none 0 0]:List Value).toArray ps:=by intro ps;kernel_rfl
theorem HA:([.slice none 0 0]:List Value).all (·.oneCell')=true:=by kernel_rfl
theorem z107:BZ Tryz.prog 107=some [.slice none 0 0]:=by kernel_rfl
theorem ez:Ab Tryz.prog 107 0=some 0:=by kernel_rfl
theorem AAF:En Tryz.prog 111=true:=by kernel_rfl
theorem n5:En Tryz.prog 112=true:=by kernel_rfl
theorem ADR:A9 Tryz.prog 114=some 2:=by kernel_rfl
theorem AAG:Fy Tryz.prog 114=true:=by kernel_rfl
theorem ADS:∀ps,Tryz.prog.built 114 ps=Instr.fill (fun i=>(#[(0,1),(1,1)]:Array (Nat×Nat))[i]?) ((List.replicate 2 (.slice none 0 0)):List Value).toArray ps:=by intro ps;kernel_rfl
theorem ADT:((List.replicate 2 (.slice none 0 0)):List Value).all (·.oneCell')=true:=by kernel_rfl
theorem uf:Ab Tryz.prog 114 0=some 0:=by kernel_rfl
theorem e7:Ab Tryz.prog 114 1=some 1:=by kernel_rfl
theorem ADU:A9 Tryz.prog 116=some 2:=by kernel_rfl
theorem AAH:Fy Tryz.prog 116=true:=by kernel_rfl
theorem ADV:∀ps,Tryz.prog.built 116 ps=Instr.fill (fun i=>(#[(0,1),(1,1)]:Array (Nat×Nat))[i]?) ([.slice none 0 0,.int .i64 0]:List Value).toArray ps:=by intro ps;kernel_rfl
theorem ADW:([.slice none 0 0,.int .i64 0]:List Value).all (·.oneCell')=true:=by kernel_rfl
theorem yZ:A9 Tryz.prog 127=some 1:=by kernel_rfl
theorem AAI:En Tryz.prog 127=true:=by kernel_rfl
theorem Fe:A9 Tryz.prog 132=some 2:=by kernel_rfl
theorem Rl:Fy Tryz.prog 132=true:=by kernel_rfl
theorem ya:B1 Tryz.prog 132=some 16:=by kernel_rfl
theorem ADX:∀ps,Tryz.prog.built 132 ps=Instr.fill (fun i=>(#[(0,1),(1,1)]:Array (Nat×Nat))[i]?) ((List.replicate 2 (.int .i64 0)):List Value).toArray ps:=by intro ps;kernel_rfl
theorem Xg:((List.replicate 2 (.int .i64 0)):List Value).all (·.oneCell')=true:=by kernel_rfl
theorem jE:BZ Tryz.prog 132=some (List.replicate 2 (.int .i64 0)):=by kernel_rfl
theorem ug:Ab Tryz.prog 132 0=some 0:=by kernel_rfl
theorem uh:Ab Tryz.prog 132 1=some 1:=by kernel_rfl
theorem yc:A9 Tryz.prog 133=some 1:=by kernel_rfl
theorem AAJ:En Tryz.prog 133=true:=by kernel_rfl
theorem IE:A9 Tryz.prog 135=some 5:=by kernel_rfl
theorem Vw:Fy Tryz.prog 135=true:=by kernel_rfl
theorem n7:B1 Tryz.prog 135=some 64:=by kernel_rfl
theorem ADY:∀ps,Tryz.prog.built 135 ps=Instr.fill (fun i=>(#[(0,1),(1,1),(2,1),(3,1),(4,1)]:Array (Nat×Nat))[i]?) ([.string (ByteArray.mk #[]),.int .i64 0,.int .i64 0,.slice none 0 0,.int .i64 0]:List Value).toArray ps:=by intro ps;kernel_rfl
theorem Xh:([.string (ByteArray.mk #[]),.int .i64 0,.int .i64 0,.slice none 0 0,.int .i64 0]:List Value).all (·.oneCell')=true:=by kernel_rfl
theorem Vx:BZ Tryz.prog 135=some [.string (ByteArray.mk #[]),.int .i64 0,.int .i64 0,.slice none 0 0,.int .i64 0]:=by kernel_rfl
theorem uj:Ab Tryz.prog 135 0=some 0:=by kernel_rfl
theorem uk:Ab Tryz.prog 135 1=some 1:=by kernel_rfl
theorem um:Ab Tryz.prog 135 2=some 2:=by kernel_rfl
theorem Vy:Ab Tryz.prog 135 3=some 3:=by kernel_rfl
theorem uo:Ab Tryz.prog 135 4=some 4:=by kernel_rfl
theorem ADZ:∀ps,Tryz.prog.built 139 ps=Instr.fill (fun i=>(#[(0,1),(1,1)]:Array (Nat×Nat))[i]?) ((List.replicate 2 (.int .i64 0)):List Value).toArray ps:=by intro ps;kernel_rfl
theorem ADa:((List.replicate 2 (.int .i64 0)):List Value).all (·.oneCell')=true:=by kernel_rfl
theorem uq:Ab Tryz.prog 139 0=some 0:=by kernel_rfl
theorem ur:Ab Tryz.prog 139 1=some 1:=by kernel_rfl
theorem Iz:A9 Tryz.prog 141=some 3:=by kernel_rfl
theorem Rm:Fy Tryz.prog 141=true:=by kernel_rfl
theorem ADb:∀ps,Tryz.prog.built 141 ps=Instr.fill (fun i=>(#[(0,2),(2,1)]:Array (Nat×Nat))[i]?) ([.int .i64 0,.int .i64 0,.slice none 0 0]:List Value).toArray ps:=by intro ps;kernel_rfl
theorem Rn:([.int .i64 0,.int .i64 0,.slice none 0 0]:List Value).all (·.oneCell')=true:=by kernel_rfl
theorem z141:BZ Tryz.prog 141=some [.int .i64 0,.int .i64 0,.slice none 0 0]:=by kernel_rfl
theorem uu:Ab Tryz.prog 141 0=some 0:=by kernel_rfl
theorem uv:Ab Tryz.prog 141 1=some 2:=by kernel_rfl
theorem PI:A9 Tryz.prog 160=some 1:=by kernel_rfl
theorem AAK:En Tryz.prog 160=true:=by kernel_rfl
theorem ADc:B1 Tryz.prog 160=some 24:=by kernel_rfl
theorem z160:BZ Tryz.prog 160=some [.slice none 0 0]:=by kernel_rfl
theorem ADd:A9 Tryz.prog 176=some 1:=by kernel_rfl
theorem Ja:En Tryz.prog 176=true:=by kernel_rfl
theorem ADe:([.pointer none]:List Value).all (·.oneCell')=true:=by kernel_rfl
theorem AHc:BZ Tryz.prog 176=some [.pointer none]:=by kernel_rfl
theorem Ff:A9 Tryz.prog 181=some 1:=by kernel_rfl
theorem IZ:En Tryz.prog 181=true:=by kernel_rfl
theorem yd:B1 Tryz.prog 181=some 4:=by kernel_rfl
theorem ADf:([.int .u32 0]:List Value).all (·.oneCell')=true:=by kernel_rfl
theorem AAL:BZ Tryz.prog 181=some [.int .u32 0]:=by kernel_rfl
theorem ADg:A9 Tryz.prog 187=some 2:=by kernel_rfl
theorem AAM:Fy Tryz.prog 187=true:=by kernel_rfl
theorem ADh:∀ps,Tryz.prog.built 187 ps=Instr.fill (fun i=>(#[(0,1),(1,1)]:Array (Nat×Nat))[i]?) ((List.replicate 2 (.int .i64 0)):List Value).toArray ps:=by intro ps;kernel_rfl
theorem ADi:((List.replicate 2 (.int .i64 0)):List Value).all (·.oneCell')=true:=by kernel_rfl
theorem uw:Ab Tryz.prog 187 0=some 0:=by kernel_rfl
theorem ux:Ab Tryz.prog 187 1=some 1:=by kernel_rfl
theorem Dv:A9 Tryz.prog 189=some 15:=by kernel_rfl
theorem Ia:Fy Tryz.prog 189=true:=by kernel_rfl
theorem yf:B1 Tryz.prog 189=some 152:=by kernel_rfl
theorem ADj:∀ps,Tryz.prog.built 189 ps=Instr.fill (fun i=>(#[(0,1),(1,1),(2,1),(3,2),(5,1),(6,2),(8,1),(9,1),(10,1),(11,1),(12,1),(13,2)]:Array (Nat×Nat))[i]?) ([.int .i64 0,.string (ByteArray.mk #[]),.string (ByteArray.mk #[]),.int .i64 0,.int .i64 0,.int .i64 0,.int .i64 0,.int .i64 0,.int .i64 0,.int .i64 0,.bool false,.int .i64 0,.slice none 0 0,.int .i64 0,.int .i64 0]:List Value).toArray ps:=by intro ps;kernel_rfl
theorem L3:([.int .i64 0,.string (ByteArray.mk #[]),.string (ByteArray.mk #[]),.int .i64 0,.int .i64 0,.int .i64 0,.int .i64 0,.int .i64 0,.int .i64 0,.int .i64 0,.bool false,.int .i64 0,.slice none 0 0,.int .i64 0,.int .i64 0]:List Value).all (·.oneCell')=true:=by kernel_rfl
theorem Ro:BZ Tryz.prog 189=some [.int .i64 0,.string (ByteArray.mk #[]),.string (ByteArray.mk #[]),.int .i64 0,.int .i64 0,.int .i64 0,.int .i64 0,.int .i64 0,.int .i64 0,.int .i64 0,.bool false,.int .i64 0,.slice none 0 0,.int .i64 0,.int .i64 0]:=by kernel_rfl
theorem uy:Ab Tryz.prog 189 0=some 0:=by kernel_rfl
theorem uz:Ab Tryz.prog 189 1=some 1:=by kernel_rfl
theorem u5:Ab Tryz.prog 189 2=some 2:=by kernel_rfl
theorem u6:Ab Tryz.prog 189 3=some 3:=by kernel_rfl
theorem u7:Ab Tryz.prog 189 4=some 5:=by kernel_rfl
theorem u9:Ab Tryz.prog 189 5=some 6:=by kernel_rfl
theorem u_:Ab Tryz.prog 189 6=some 8:=by kernel_rfl
theorem vA:Ab Tryz.prog 189 7=some 9:=by kernel_rfl
theorem vB:Ab Tryz.prog 189 8=some 10:=by kernel_rfl
theorem vC:Ab Tryz.prog 189 9=some 11:=by kernel_rfl
theorem Xi:Ab Tryz.prog 189 10=some 12:=by kernel_rfl
theorem n8:Ab Tryz.prog 189 11=some 13:=by kernel_rfl
theorem Ke:A9 Tryz.prog 198=some 3:=by kernel_rfl
theorem yg:B1 Tryz.prog 198=some 24:=by kernel_rfl
theorem ADk:∀ps,Tryz.prog.built 198 ps=Instr.fill (fun i=>(#[(0,2),(2,1)]:Array (Nat×Nat))[i]?) ((List.replicate 3 (.int .i64 0)):List Value).toArray ps:=by intro ps;kernel_rfl
theorem yh:((List.replicate 3 (.int .i64 0)):List Value).all (·.oneCell')=true:=by kernel_rfl
theorem z198:BZ Tryz.prog 198=some (List.replicate 3 (.int .i64 0)):=by kernel_rfl
theorem vD:Ab Tryz.prog 198 0=some 0:=by kernel_rfl
theorem vE:Ab Tryz.prog 198 1=some 2:=by kernel_rfl
theorem Kg:En Tryz.prog 232=true:=by kernel_rfl
theorem ADl:∀ps,Tryz.prog.built 234 ps=Instr.fill (fun i=>(#[(0,1),(1,1),(2,1)]:Array (Nat×Nat))[i]?) ([.int .i64 0,.slice none 0 0,.slice none 0 0]:List Value).toArray ps:=by intro ps;kernel_rfl
theorem ADm:([.int .i64 0,.slice none 0 0,.slice none 0 0]:List Value).all (·.oneCell')=true:=by kernel_rfl
theorem vF:Ab Tryz.prog 234 0=some 0:=by kernel_rfl
theorem LU:Ab Tryz.prog 234 1=some 1:=by kernel_rfl
theorem e_:Ab Tryz.prog 234 2=some 2:=by kernel_rfl
theorem ADn:A9 Tryz.prog 241=some 1:=by kernel_rfl
theorem AAN:En Tryz.prog 241=true:=by kernel_rfl
theorem Gr:A9 Tryz.prog 247=some 12:=by kernel_rfl
theorem Jb:Fy Tryz.prog 247=true:=by kernel_rfl
theorem fA:∀ps,Tryz.prog.built 247 ps=Instr.fill (fun i=>(#[(0,1),(1,1),(2,2),(4,2),(6,2),(8,2),(10,1),(11,1)]:Array (Nat×Nat))[i]?) ([.int .i64 0,.string (ByteArray.mk #[]),.int .i64 0,.int .i64 0,.int .i64 0,.int .i64 0,.int .i64 0,.int .i64 0,.int .i64 0,.int .i64 0,.int .i64 0,.int .i64 0]:List Value).toArray ps:=by intro ps;kernel_rfl
theorem J4:([.int .i64 0,.string (ByteArray.mk #[]),.int .i64 0,.int .i64 0,.int .i64 0,.int .i64 0,.int .i64 0,.int .i64 0,.int .i64 0,.int .i64 0,.int .i64 0,.int .i64 0]:List Value).all (·.oneCell')=true:=by kernel_rfl
theorem Tc:BZ Tryz.prog 247=some [.int .i64 0,.string (ByteArray.mk #[]),.int .i64 0,.int .i64 0,.int .i64 0,.int .i64 0,.int .i64 0,.int .i64 0,.int .i64 0,.int .i64 0,.int .i64 0,.int .i64 0]:=by kernel_rfl
theorem vG:Ab Tryz.prog 247 2=some 2:=by kernel_rfl
theorem vH:Ab Tryz.prog 247 3=some 4:=by kernel_rfl
theorem vI:Ab Tryz.prog 247 4=some 6:=by kernel_rfl
theorem vJ:Ab Tryz.prog 247 5=some 8:=by kernel_rfl
theorem vK:Ab Tryz.prog 247 6=some 10:=by kernel_rfl
theorem vL:Ab Tryz.prog 247 7=some 11:=by kernel_rfl
theorem CO:A9 Tryz.prog 268=some 2:=by kernel_rfl
theorem DM:Fy Tryz.prog 268=true:=by kernel_rfl
theorem fB:B1 Tryz.prog 268=some 16:=by kernel_rfl
theorem UG:∀ps,Tryz.prog.built 268 ps=Instr.fill (fun i=>(#[(0,1),(1,1)]:Array (Nat×Nat))[i]?) ((List.replicate 2 (.int .i64 0)):List Value).toArray ps:=by intro ps;kernel_rfl
theorem F6:((List.replicate 2 (.int .i64 0)):List Value).all (·.oneCell')=true:=by kernel_rfl
theorem KF:BZ Tryz.prog 268=some (List.replicate 2 (.int .i64 0)):=by kernel_rfl
theorem vM:Ab Tryz.prog 268 1=some 1:=by kernel_rfl
theorem GH:A9 Tryz.prog 270=some 4:=by kernel_rfl
theorem Kh:Fy Tryz.prog 270=true:=by kernel_rfl
theorem ADo:B1 Tryz.prog 270=some 48:=by kernel_rfl
theorem fC:∀ps,Tryz.prog.built 270 ps=Instr.fill (fun i=>(#[(0,1),(1,1),(2,2)]:Array (Nat×Nat))[i]?) ([.int .i64 0,.slice none 0 0,.int .i64 0,.int .i64 0]:List Value).toArray ps:=by intro ps;kernel_rfl
theorem Rp:([.int .i64 0,.slice none 0 0,.int .i64 0,.int .i64 0]:List Value).all (·.oneCell')=true:=by kernel_rfl
theorem vN:BZ Tryz.prog 270=some [.int .i64 0,.slice none 0 0,.int .i64 0,.int .i64 0]:=by kernel_rfl
theorem ADp:A9 Tryz.prog 283=some 1:=by kernel_rfl
theorem n9:En Tryz.prog 283=true:=by kernel_rfl
theorem Cy:A9 Tryz.prog 285=some 4:=by kernel_rfl
theorem Dn:Fy Tryz.prog 285=true:=by kernel_rfl
theorem yj:B1 Tryz.prog 285=some 64:=by kernel_rfl
theorem n_:∀ps,Tryz.prog.built 285 ps=Instr.fill (fun i=>(#[(0,1),(1,1),(2,1),(3,1)]:Array (Nat×Nat))[i]?) ([.int .i64 0,.slice none 0 0,.bool false,.slice none 0 0]:List Value).toArray ps:=by intro ps;kernel_rfl
theorem L4:([.int .i64 0,.slice none 0 0,.bool false,.slice none 0 0]:List Value).all (·.oneCell')=true:=by kernel_rfl
theorem OW:BZ Tryz.prog 285=some [.int .i64 0,.slice none 0 0,.bool false,.slice none 0 0]:=by kernel_rfl
theorem vO:Ab Tryz.prog 285 0=some 0:=by kernel_rfl
theorem vP:Ab Tryz.prog 285 1=some 1:=by kernel_rfl
theorem vQ:Ab Tryz.prog 285 2=some 2:=by kernel_rfl
theorem fD:Ab Tryz.prog 285 3=some 3:=by kernel_rfl
theorem yl:A9 Tryz.prog 290=some 2:=by kernel_rfl
theorem ADq:∀ps,Tryz.prog.built 290 ps=Instr.fill (fun i=>(#[(0,1),(1,1)]:Array (Nat×Nat))[i]?) ([.string (ByteArray.mk #[]),.int .i64 0]:List Value).toArray ps:=by intro ps;kernel_rfl
theorem ym:([.string (ByteArray.mk #[]),.int .i64 0]:List Value).all (·.oneCell')=true:=by kernel_rfl
theorem AHd:BZ Tryz.prog 290=some [.string (ByteArray.mk #[]),.int .i64 0]:=by kernel_rfl
theorem vR:Ab Tryz.prog 290 1=some 1:=by kernel_rfl
end Go.Proofs.YtmocaapoeefgkaaGreatDoor
namespace Cp
open Go Go.RowKit Go.Great
variable {a:Act} {ops:Array Oper} {xs:Array Operand} {ts:Array TypeId} {M:Av} {f:FuncId} {rows rows':List (List Pr)} {ps qs:List Pr} {zs:List Value} {b i j k m:Nat} {x:Operand} {p:Pr} {T e t:TypeId} {v:Value}
section
variable {P:Program} {L:Lg P} {n:Fm} {fz:Nat} {E:Env} {M0:Av} {w0:World} {S:Nat→Prop} {rs:List At} {o:Oper}
def lens (m:Nat):Pr where
 h _ _ v:=∃a c,v= .slice a m c
 st _M _w _M' _w' _v _ h:=h
instance ADr (m:Nat):One (lens m):=⟨by rintro M w v ⟨a,c,rfl⟩;exact ⟨rfl,rfl⟩⟩
def EN (e:TypeId) (sz:Nat) (rows:List (List Pr)) (v:Value):At where
 blk:=match v with| .slice (some a) _ _=>some a.block|_=>none
 new:=true
 h M w:=∃(b cap:Nat) (spare:List Value),v= .slice (some ⟨b,0,none⟩) rows.length cap∧rows.length≤cap∧cap≤maxLen∧spare.length=(cap-rows.length)*sz∧(AF true b e (rows.flatten++spare.map is)).h M w
 st M w M' w' he hk h:=by
  obtain ⟨b,cap,spare,rfl,h1,h2,h3,h4⟩:=h
  exact ⟨b,cap,spare,rfl,h1,h2,h3,(AF true b e _).st _ _ _ _ he hk h4⟩
theorem IF {sz:Nat}:∀{rows:List (List Pr)} {i j:Nat} {row:List Pr},(∀r∈rows,r.length=sz)→rows[i]? =some row→j<sz→rows.flatten[i*sz+j]? =row[j]?
 |[],_,_,_,_,h,_=>by simp at h
 |a::l,0,j,row,hl,h,hj=>by
  simp at h;subst h
  have:=hl a AO
  rw [List.flatten_cons,Nat.zero_mul,Nat.zero_add,List.getElem?_append_left AA]
 |a::l,i+1,j,row,hl,h,hj=>by
  have h1:=hl a AO
  rw [List.flatten_cons,Nat.succ_mul,List.getElem?_append_right AA,h1,show i*sz+sz+j-sz=i*sz+j by omega]
  exact IF (fun r hr=>hl r (List.mem_cons_of_mem _ hr)) EJ hj
theorem C5 {sz:Nat}:∀{rows:List (List Pr)},(∀r∈rows,r.length=sz)→rows.flatten.length=rows.length*sz
 |[],_=>by simp
 |a::l,h=>by
  rw [List.flatten_cons,List.length_append,C5 (fun r hr=>h r (List.mem_cons_of_mem _ hr)),h a AO,List.length_cons,Nat.succ_mul];omega
theorem UH {M:Av} {w:World}:∀{ps:List Pr} {vs:List Value},vs.length=ps.length→(∀(k:Nat) p,ps[k]? =some p→∃u,vs[k]? =some u∧p.h M w u)→HL M w ps vs
 |[],[],_,_=>trivial
 |[],_::_,h,_=>by simp at h
 |_::_,[],h,_=>by simp at h
 |p::ps,v::vs,h,hk=>by
  refine ⟨?_,UH EJ fun k q hq=>by simpa using hk (k+1) q (by simpa using hq)⟩
  obtain ⟨u,hu,hp⟩:=hk 0 p rfl
  simp at hu;subst hu;exact hp
theorem Flat.hl {w:World} {sz:Nat} {news:List Value} (hsz:0<sz) (h:Flat M w sz rows news):HL M w rows.flatten news:=by
 have hl:∀r∈rows,r.length=sz:=fun r hr=>by obtain ⟨i,hi⟩:=List.mem_iff_getElem?.1 hr;exact (h.2.2 i r hi).1
 refine UH (by rw [h.1,C5 hl]) fun k p hk=> ?_
 have ZL:k<rows.length*sz:=by rw [←C5 hl];rcases Nat.lt_or_ge k rows.flatten.length with h|h;exact h;rw [List.getElem?_eq_none h] at hk;cases hk
 have hi:k/sz<rows.length:=Nat.div_lt_of_lt_mul (by rw [Nat.mul_comm];exact ZL)
 have hj:k % sz<sz:=Nat.mod_lt _ hsz
 have he:k/sz*sz+k % sz=k:=by rw [Nat.mul_comm];exact Nat.div_add_mod k sz
 have hr:=List.getElem?_eq_getElem hi
 rw [←he,IF hl hr hj] at hk
 obtain ⟨u,hu,hp⟩:=(h.2.2 _ _ hr).2 _ p hk
 exact ⟨u,by rw [←he];exact hu,hp⟩
theorem HL.flat {w:World} {sz:Nat} {cs:List Value} (hl:∀r∈rows,r.length=sz) (h:HL M w (rows.flatten++qs) cs) (h1:∀c∈cs,c.oneCell'=true):Flat M w sz rows (cs.take (rows.length*sz)):=by
 have hfl:=C5 hl
 have hlen:=h.length
 refine ⟨by rw [List.length_take,hlen,List.length_append,hfl];omega,fun u hu=>h1 u (List.mem_of_mem_take hu),fun i row hi=> ?_⟩
 have hrl:=hl row (List.mem_of_getElem? hi)
 refine ⟨hrl,fun j p hp=> ?_⟩
 have hjl:j<sz:=by grind
 have Gm:i<rows.length:=by grind
 have hlt:i*sz+j<rows.length*sz:=by have:(i+1)*sz≤rows.length*sz:=Nat.mul_le_mul_right sz Gm;rw [Nat.add_mul] at this;omega
 obtain ⟨u,hu,hh⟩:=h.at_ (i*sz+j) p (by rw [List.getElem?_append_left (by rw [hfl];exact hlt),IF hl hi hjl];exact hp)
 exact ⟨u,by rw [List.getElem?_take,if_pos hlt];exact hu,hh⟩
theorem Ge {z:Array Value} (hz:z.toList=zs) (h1:zs.all (·.oneCell')=true):∀c∈(Builtin.zeroCells z k).toList,c.oneCell'=true:=by
 intro c hc
 simp only [Builtin.zeroCells,Array.toList_map,Array.toList_range,List.mem_map,List.mem_range] at hc
 obtain ⟨i,hi,rfl⟩:=hc
 have hpos:0<z.size:=by grind
 have hm:i % z.size<z.size:=Nat.mod_lt _ hpos
 rw [getElem!_pos z _ hm]
 exact List.all_eq_true.1 h1 _ (by rw [←hz];simp)
theorem vS {w:World} {ty:TypeId} {sz bytes:Nat} {u:Value} (ht:P.underlying t=some (.slice e)) (hz:A9 P e=some sz) (hby:B1 P e=some bytes) (Ev:BZ P e=some zs) (hzl:zs.length=sz) (hone:zs.all (·.oneCell')=true) (hsz:0<sz) (h:A7 M0 w0 S rs M w) (hj:rs[j]? =some Bf) (hu:(slice sz rows).h M w u) (hpos:0<rows.length) (HF:rows.length≤maxLen) (hfit:rows.length*bytes≤140737488355328):
  ∃v' w' M',(Builtin.append_ #[t,t] ty #[.slice none 0 0,u]).run P w= .ok v' w'∧(lens rows.length).h M' w' v'∧Ext M w M' w'∧A7 M0 w0 S (rs.set j (EN e sz rows v')) M' w':=by
 unfold A9 at hz
 unfold B1 at hby
 unfold BZ at Ev
 cases hi:P.info? e with
 |none=>rw [hi] at hz;cases hz
 |some i=>
  rw [hi] at hz hby Ev
  simp only [Option.map_some,Option.some.injEq,Option.map_eq_some_iff] at hz hby Ev
  obtain ⟨z,eV,Ev⟩:=Ev
  have l6:z.cells.size=sz:=by rw [←hzl,←Ev];simp
  obtain ⟨A',c',rfl,hmc,Z0,hA',HW⟩:=hu
  have T6:(slice sz rows).h M w (.slice A' rows.length c'):=⟨A',c',rfl,hmc,Z0,hA',HW⟩
  obtain ⟨UB,rfl⟩:∃UB,A'=some UB:=by
   obtain ⟨_,b,hb,_⟩:=HW 0 _ (List.getElem?_eq_getElem hpos)
   exact ⟨b,hb⟩
  obtain ⟨news,hfl,hcell⟩:=GN hsz T6
  have hrun:=run_append_nil (P:=P) w t ty e i z ht hi eV UB rows.length c' news (by rw [hz];exact hfl.1) (fun k u hk=>(hcell k u hk).1) hpos VX (by rw [hby];omega)
  generalize hcap:grownCap w rows.length 0 e=cap at hrun
  have hge:rows.length≤cap:=by rw [←hcap];exact grownCap_ge _ _ _ _
  have hle:cap≤maxLen:=by rw [←hcap];exact grownCap_le_maxLen _ _ _ _ HF
  generalize TX:Builtin.zeroCells z.cells (cap-rows.length)=zc at hrun
  have hzs:zc.size=(cap-rows.length)*sz:=by rw [←TX,size_zeroCells,l6]
  have hzo:∀c∈zc.toList,c.oneCell'=true:=by rw [←TX];exact Ge Ev hone
  have hb:Below w.heap.size w (w.drew.alloc (.cells (news.toArray++zc) e)):=((Below.refl _ _).drew).alloc (Nat.le_refl _) _
  have h2:=Ext.below (M:=M) hb
  have FE:Ext M w (fun b o=>M b o∨b=w.heap.size) (w.drew.alloc (.cells (news.toArray++zc) e)):=by
   refine ⟨h2.size,fun a v hc hm=>⟨fun hx=> ?_,(h2.keep a v hc hm).2⟩,fun b o ho hp hm=>⟨fun hx=> ?_,(h2.obj b o ho hp hm).2⟩⟩
   ·
    rcases hx with hx|hx
    · exact hm hx
    · exact FM
   · grind
  have hs1:(w.drew.alloc (.cells (news.toArray++zc) e)).heap.size=w.heap.size+1:=by simp
  refine ⟨_,_,fun b o=>M b o∨b=w.heap.size,hrun,⟨_,_,rfl⟩,FE,?_⟩
  refine h.replace hj FE hb.os hb.tape hb.output (fun k hk _=>hb.block k hk) rfl (fun b o hm _=> .inl hm) (fun b o hx=> ?_) ?_ rfl (fun b hbk=> ?_)
  ·
   rcases hx with hx|hx
   · exact NC
   · omega
  ·
   refine ⟨w.heap.size,cap,zc.toList,rfl,hge,hle,by simpa using hzs,fun o=> .inr rfl,news++zc.toList,?_,?_,?_⟩
   ·
    have hh:(w.drew.alloc (.cells (news.toArray++zc) e)).heap[w.heap.size]? =some (.cells (news.toArray++zc) e (0,0)):=heap_alloc_new w.drew _
    rw [hh];simp
   · exact ((hfl.st FE).hl hsz).app (KV _ _ _)
   ·
    intro c hc
    rcases List.mem_append.1 hc with hc|hc
    · exact hfl.2.1 c hc
    · exact hzo c hc
  ·
   have FB:some w.heap.size=some b:=hbk
   injection FB with e1
   subst e1
   exact ⟨by rw [hs1];omega,.inr (Nat.le_refl _)⟩
theorem St.PJ {sz:Nat} (j:Nat) (hj:rs[j]? =some (EN e sz rows v)) {w:World} (h:St n E (Hp M0 w0 S rs) a w):
  ∃(b cap:Nat) (spare:List Value),v= .slice (some ⟨b,0,none⟩) rows.length cap∧rows.length≤cap∧cap≤maxLen∧spare.length=(cap-rows.length)*sz∧St n E (Hp M0 w0 S (rs.set j (AF true b e (rows.flatten++spare.map is)))) a w:=by
 obtain ⟨M,h1,h2,h3,h4⟩:=h
 have h4:A7 M0 w0 S rs M w:=h4
 obtain ⟨b,cap,spare,rfl,h5,h6,h7,h8⟩:=(h4.hold _ (List.mem_of_getElem? hj)).1
 exact ⟨b,cap,spare,rfl,h5,h6,h7,M,h1,h2,h3,h4.Ce hj rfl rfl h8⟩
theorem Tr.PJ {Q:Exit→Act→World→Prop} {c:Code} {sz:Nat} (j:Nat) (hj:rs[j]? =some (EN e sz rows v)) (k:∀(b cap:Nat) (spare:List Value),v= .slice (some ⟨b,0,none⟩) rows.length cap→rows.length≤cap→cap≤maxLen→spare.length=(cap-rows.length)*sz→Tr L n E (Hp M0 w0 S (rs.set j (AF true b e (rows.flatten++spare.map is)))) c Q):Tr L n E (Hp M0 w0 S rs) c Q:=
 fun a w hs=>let ⟨b,cap,spare,h1,h2,h3,h4,h5⟩:=hs.PJ j hj;k b cap spare h1 h2 h3 h4 a w h5
theorem Fin.PJ {Q:Exit→Act→World→Prop} {ex:Exit} {sz:Nat} (j:Nat) (hj:rs[j]? =some (EN e sz rows v)) (k:∀(b cap:Nat) (spare:List Value),v= .slice (some ⟨b,0,none⟩) rows.length cap→rows.length≤cap→cap≤maxLen→spare.length=(cap-rows.length)*sz→Fin n E (Hp M0 w0 S (rs.set j (AF true b e (rows.flatten++spare.map is)))) Q ex):Fin n E (Hp M0 w0 S rs) Q ex:=
 fun a w hs=>let ⟨b,cap,spare,h1,h2,h3,h4,h5⟩:=hs.PJ j hj;k b cap spare h1 h2 h3 h4 a w h5
theorem A7.frz {w:World} {cap sz:Nat} (h:A7 M0 w0 S rs M w) (hj:rs[j]? =some (AF true b e (rows.flatten++qs))) (hl:∀r∈rows,r.length=sz) (hc:rows.length≤cap) (hm:cap≤maxLen) (hq:qs.length=(cap-rows.length)*sz):
  ∃M',Ext M w M' w∧A7 M0 w0 S (rs.set j (As e sz (.slice (some ⟨b,0,none⟩) rows.length cap))) M' w∧(slice sz rows).h M' w (.slice (some ⟨b,0,none⟩) rows.length cap):=by
 obtain ⟨⟨hM,cs,hh,hcs,hone⟩,hbb⟩:=h.hold _ (List.mem_of_getElem? hj)
 have Xj:=(hbb b rfl).1
 have hfl:=HL.flat hl hcs hone
 have hlen:=hcs.length
 rw [List.length_append,C5 hl,hq,←Nat.add_mul,show rows.length+(cap-rows.length)=cap by omega] at hlen
 have he:Ext M w (fun b' o=>M b' o∧¬(b'=b∧o<rows.length*sz)) w:=Ext.less fun _ _ h=>h.1
 refine ⟨_,he,?_,FF (hfl.st he) hc hm fun k u hk=> ?_⟩
 ·
  refine h.replace hj he rfl rfl rfl (fun _ _ _=>rfl) rfl (fun b' o hm' hne=>⟨hm',fun hx=>hne (by rw [hx.1];rfl)⟩) (fun b' o hx=>h.bd _ _ hx.1) ?_ rfl (fun b' hbk=> ?_)
  ·
   intro a' n' c' hv hlt
   injection hv with e1 e2 e3
   injection e1 with e1
   subst e1;subst e2;subst e3
   refine ⟨⟨cs.take (rows.length*sz),hfl.1,.inr ⟨b,cap,cs.toArray,rfl,Nat.zero_le _,hh,hc,hm,by simpa using hlen,by simp⟩⟩,fun o ho=>⟨hM o,fun hx=>by omega⟩⟩
  ·
   have FB:Dx (.slice (some ⟨b,0,none⟩) rows.length cap)=some b':=hbk
   simp only [Dx] at FB
   split at FB
   · simp at FB;subst FB;exact ⟨Xj,.inl rfl⟩
   · cases FB
 ·
  have ZL:k<rows.length*sz:=by rw [←hfl.1];rcases Nat.lt_or_ge k (cs.take (rows.length*sz)).length with h|h;exact h;rw [List.getElem?_eq_none h] at hk;cases hk
  rw [List.getElem?_take,if_pos ZL] at hk
  exact ⟨by simp [World.cell?,hh,hk],fun hx=>hx.2 ⟨rfl,ZL⟩⟩
theorem St.vT {b0 cap sz:Nat} {new:Bool} {ps':List Pr} (j i k:Nat) (hj:rs[j]? =some (AF true b e (rows.flatten++qs))) (hi:rs[i]? =some (AF new b0 T ps)) (hij:j≠i) (hk:ps[k]? =some p) (hp:Pr.le p (is (.slice (some ⟨b,0,none⟩) rows.length cap))) (hl:∀r∈rows,r.length=sz) (hc:rows.length≤cap) (hm:cap≤maxLen) (hq:qs.length=(cap-rows.length)*sz) (hps:ps.set k (AV (.slice (some ⟨b,0,none⟩) rows.length cap) (slice sz rows))=ps') {w:World} (h:St n E (Hp M0 w0 S rs) a w):St n E (Hp M0 w0 S ((rs.set j (As e sz (.slice (some ⟨b,0,none⟩) rows.length cap))).set i (AF new b0 T ps'))) a w:=by
 obtain ⟨M,h1,h2,h3,h4⟩:=h
 obtain ⟨M',h5,h6,h7⟩:=A7.frz h4 hj hl hc hm hq
 have hi':(rs.set j (As e sz (.slice (some ⟨b,0,none⟩) rows.length cap)))[i]? =some (AF new b0 T ps):=by grind
 obtain ⟨h8,cs,h9,h10,h11⟩:=(h6.hold _ (List.mem_of_getElem? hi')).1
 refine ⟨M',h1,h2,fun s q hs=>q.st _ _ _ _ _ h5 (h3 s q hs),h6.Ce hi' rfl rfl ⟨h8,cs,h9,?_,h11⟩⟩
 subst hps
 refine UH (by rw [h10.length];simp) fun k' p' hk'=> ?_
 rw [List.getElem?_set] at hk'
 split at hk'
 ·
  rename_i e1
  subst e1
  split at hk'
  ·
   obtain ⟨u,hu,hpu⟩:=h10.at_ k p hk
   simp at hk';subst hk'
   have:=hp _ _ _ hpu
   refine ⟨u,hu,this,?_⟩
   have hu2:u= .slice (some ⟨b,0,none⟩) rows.length cap:=this
   rw [hu2];exact h7
  · cases hk'
 · exact h10.at_ k' p' hk'
theorem Tr.vT {Q:Exit→Act→World→Prop} {c:Code} {b0 cap sz:Nat} {new:Bool} (rows:List (List Pr)) {ps':List Pr} (j i k:Nat) (hj:rs[j]? =some (AF true b e (rows.flatten++qs))) (hi:rs[i]? =some (AF new b0 T ps)) (hij:j≠i) (hk:ps[k]? =some p) (hp:Pr.le p (is (.slice (some ⟨b,0,none⟩) rows.length cap))) (hl:∀r∈rows,r.length=sz) (hc:rows.length≤cap) (hm:cap≤maxLen) (hq:qs.length=(cap-rows.length)*sz) (hps:ps.set k (AV (.slice (some ⟨b,0,none⟩) rows.length cap) (slice sz rows))=ps') (k':Tr L n E (Hp M0 w0 S ((rs.set j (As e sz (.slice (some ⟨b,0,none⟩) rows.length cap))).set i (AF new b0 T ps'))) c Q):Tr L n E (Hp M0 w0 S rs) c Q:=
 Tr.conv (fun _ _ hs=>hs.vT j i k hj hi hij hk hp hl hc hm hq hps) k'
end
abbrev str (l:List UInt8):Pr:=is (.string ⟨l.toArray⟩)
theorem MM (l:List UInt8):(ByteArray.mk l.toArray).toList=l:=by rw [ByteArray.toList_eq]
theorem Rr (l:List UInt8):(ByteArray.mk l.toArray).size=l.length:=rfl
section
variable {P:Program} {L:Lg P} {E:Env} {I:C1} {o:Oper}
theorem AAO {u:TypeId} {y:Operand} {a b:List UInt8} (ho:o.op= .binOp .eql t x y u) (hx:VL E x (str a)) (hy:VL E y (str b)):Ac P I o E (bool (decide (a=b))):=
 Ac.same fun M w ac he _=>by
  have h1:ac.eval x=_:=hx.ev he Au
  have h2:ac.eval y=_:=hy.ev he Au
  refine ⟨_,by simp [execOp,ho,h1,h2,eqGuard,binOp,Op.stringOp,MM];rfl,?_⟩
  show Value.bool _=Value.bool _
  congr 1
  rw [Bool.eq_iff_iff];simp
theorem AAP {u:TypeId} {y:Operand} {a b:List UInt8} (ho:o.op= .binOp .neq t x y u) (hx:VL E x (str a)) (hy:VL E y (str b)):Ac P I o E (bool (!decide (a=b))):=
 Ac.same fun M w ac he _=>by
  have h1:ac.eval x=_:=hx.ev he Au
  have h2:ac.eval y=_:=hy.ev he Au
  refine ⟨_,by simp [execOp,ho,h1,h2,eqGuard,binOp,Op.stringOp,MM];rfl,?_⟩
  show Value.bool _=Value.bool _
  congr 1
  rw [Bool.eq_iff_iff];simp
theorem Xk:∀(a b:List UInt8),Op.bytesLess a b=decide (Lib.compareBytes a b= -1)
 |_,[]=>by cases ‹List UInt8›<;>simp [Op.bytesLess,Lib.compareBytes]
 |[],_::_=>by simp [Op.bytesLess,Lib.compareBytes]
 |a::x,b::y=>by
  rw [Op.bytesLess,Xk x y,Lib.compareBytes]
  by_cases h1:a<b
  · simp [h1]
  ·
   by_cases h2:b<a
   ·
    have h3:a≠b:=fun e=>by subst e;exact h1 h2
    simp [h1,h2,h3]
   ·
    have h3:a=b:=UInt8.le_antisymm (UInt8.not_lt.1 h2) (UInt8.not_lt.1 h1)
    simp [h1,h2,h3]
theorem Rs {u:TypeId} {y:Operand} {a b:List UInt8} (ho:o.op= .binOp .geq t x y u) (hx:VL E x (str a)) (hy:VL E y (str b)):Ac P I o E (bool (!decide (Lib.compareBytes a b= -1))):=
 Ac.same fun M w ac he _=>by
  have h1:ac.eval x=_:=hx.ev he Au
  have h2:ac.eval y=_:=hy.ev he Au
  exact ⟨_,by simp [execOp,ho,h1,h2,eqGuard,binOp,Op.stringOp,MM,Xk],rfl⟩
theorem vU {a:List UInt8} (ho:o.op= .call { callee:= .builtin .len,args:= #[x],argTypes:= #[t] }) (ht:P.underlying t=some .string) (hx:VL E x (str a)):Ac P I o E (int ((a.length:Nat):Int)):=
 Ac.same fun M w ac he _=>by
  have h1:ac.eval x=_:=hx.ev he DG
  exact ⟨.int .i64 a.length,by simp [execOp,ho,resolve,invoke,builtin,Builtin.len_,h1,run_underlying ht,goInt,Rr],rfl⟩
theorem Vz {y:Operand} {k:IntKind} {a:List UInt8} {i:Int} {c:UInt8} (ho:o.op= .index t x y) (ht:P.underlying t=some .string) (hx:VL E x (str a)) (hy:VL E y (is (.int k i))) (h0:0≤i) (hc:a[i.toNat]? =some c):Ac P I o E (is (.int .u8 c.toNat)):=
 Ac.same fun M w ac he _=>by
  have h1:ac.eval x=_:=hx.ev he Au
  have h2:ac.eval y=_:=hy.ev he Au
  refine ⟨_,?_,rfl⟩
  have hlt:i.toNat<a.length:=by rcases Nat.lt_or_ge i.toNat a.length with h|h;exact h;rw [List.getElem?_eq_none h] at hc;cases hc
  have h3:(ByteArray.mk a.toArray)[i.toNat]? =some c:=by
   rw [getElem?_pos (ByteArray.mk a.toArray) i.toNat (by rw [Rr];exact hlt)]
   rw [List.getElem?_eq_getElem hlt] at hc
   simp only [Option.some.injEq] at hc
   rw [←hc]
   rfl
  simp [execOp,ho,h1,h2,Instr.index,asIntOf,run_underlying ht,h0,h3]
theorem oG {s:TypeId} {a:List UInt8} (ho:o.op= .convert s t x) (hs:P.underlying s=some .string) (ht:P.underlying t=some (.slice e)) (he:P.underlying e=some (.int .u8)) (hx:VL E x (str a)) (hm:a.length≤maxLen):Ac P I o E (slice 1 (a.map fun c=>[is (.int .u8 c.toNat)])):=
 Ac.val fun M w ac hev hI=>by
  have h1:ac.eval x=_:=hx.ev hev Au
  have hrun:=Lib.run_convert_string_bytes (P:=P) w s t e ⟨a.toArray⟩ hs ht he
  have hcap:=grownCap_ge w a.length 0 e
  have hcm:=grownCap_le_maxLen w a.length 0 e hm
  refine ⟨.slice (some ⟨w.heap.size,0,none⟩) a.length (grownCap w a.length 0 e),Lib.bytesWorld w e ⟨a.toArray⟩,by simp [execOp,ho,h1,hrun];exact ⟨rfl,rfl⟩,?_,?_⟩
  ·
   have hbd:Bd M w:=I.bd _ _ hI
   refine ⟨_,grownCap w a.length 0 e,by rw [List.length_map],by rw [List.length_map];exact hcap,hcm,(fun h=>by cases h),fun i row hr=> ?_⟩
   rw [List.getElem?_map] at hr
   cases hc:a[i]? with
   |none=>rw [hc] at hr;cases hr
   |some c=>
    rw [hc] at hr
    simp only [Option.map_some,Option.some.injEq] at hr
    subst hr
    have Gm:i<a.length:=by rcases Nat.lt_or_ge i a.length with h|h;exact h;rw [List.getElem?_eq_none h] at hc;cases hc
    refine ⟨rfl,_,rfl,fun j p hp=> ?_⟩
    have hj:j=0:=by
     rcases Nat.eq_zero_or_pos j with h|h
     · exact h
     · rw [List.getElem?_eq_none CL] at hp;cases hp
    subst hj
    simp only [List.getElem?_cons_zero,Option.some.injEq] at hp
    subst hp
    refine ⟨.int .u8 c.toNat,?_,fun hmm=> ?_,rfl,rfl⟩
    ·
     rw [show Addr.add ⟨w.heap.size,0,none⟩ (i*1+0)=⟨w.heap.size,i,none⟩ by unfold Addr.add;split<;>simp_all]
     rw [Lib.bytesWorld_cell w e ⟨a.toArray⟩ i (by rw [Rr];exact Gm)]
     have:([]++a).getD i 0=c:=by simp [hc]
     simp [hc]
    · have:=hbd _ _ hmm;simp at this
  · exact Lib.bytesWorld_below w e ⟨a.toArray⟩
theorem V0 {a:List UInt8} {c:UInt8} (h:a[k]? =some c):a[((k:Nat):Int).toNat]? =some c:=h
theorem V1 {w:World} {xs:List Value} (h:(agg (xs.map is)).h M w v):v= .agg xs.toArray:=by
 obtain ⟨cs,rfl,ho,h2⟩:=h
 congr 1
 have:cs=xs:=by
  clear ho
  induction xs generalizing cs with
  |nil=>cases cs with
   |nil=>rfl
   |cons c cs=>exact h2.elim
  |cons x xs ih=>cases cs with
   |nil=>exact h2.elim
   |cons c cs=>rw [ih cs h2.2,show c=x from h2.1]
 rw [this]
theorem NQ {u:TypeId} {y:Operand} {r:Bool} (xs ys:List Value) (ho:o.op= .binOp .eql t x y u) (hx:VL E x (agg (xs.map is))) (hy:VL E y (agg (ys.map is))) (hg:P.eqGuardType P.depth t=false) (hr:∀w,(Op.equal t (.agg xs.toArray) (.agg ys.toArray)).run P w= .ok r w):Ac P I o E (bool r):=
 Ac.same fun M w ac he _=>by
  have h1:=V1 (hx.ev he Au)
  have h2:=V1 (hy.ev he Au)
  exact ⟨_,by simp [execOp,ho,h1,h2,eqGuard,hg,binOp,hr w],rfl⟩
theorem NR {u:TypeId} {y:Operand} {r:Bool} (xs ys:List Value) (ho:o.op= .binOp .neq t x y u) (hx:VL E x (agg (xs.map is))) (hy:VL E y (agg (ys.map is))) (hg:P.eqGuardType P.depth t=false) (hr:∀w,(Op.equal t (.agg xs.toArray) (.agg ys.toArray)).run P w= .ok r w):Ac P I o E (bool (!r)):=
 Ac.same fun M w ac he _=>by
  have h1:=V1 (hx.ev he Au)
  have h2:=V1 (hy.ev he Au)
  exact ⟨_,by simp [execOp,ho,h1,h2,eqGuard,hg,binOp,hr w],rfl⟩
theorem eqS {P:Program} {w:World} {d:Nat} {fs:Array Field} {xs ys:Array Value} {r:Bool} (ht:P.underlying t=some (.struct fs)) (hp:P.stoodInHeld t=false) (h:(Op.eqFields d xs ys fs.toList).run P w= .ok r w):(Op.equalIn (d+1) t (.agg xs) (.agg ys)).run P w= .ok r w:=by
 have hf:P.fieldsOf t=fs:=by unfold Program.fieldsOf;rw [ht]
 rw [run_equalIn_struct w d t xs ys (by rw [hf];exact ht) hp,hf];exact h
theorem NS {P:Program} {w:World} {d:Nat} {xs ys:Array Value}:(Op.eqFields d xs ys []).run P w= .ok true w:=by simp [Op.eqFields]
theorem FI {P : Program} {w : World} {d : Nat} {xs ys : Array Value} {f : Field} {fs : List Field} {vx vy : Value} {r q : Bool} (hn : f.name ≠ "_") (ha : (part f.type xs f.offset).run P w = .ok vx w) (hb : (part f.type ys f.offset).run P w = .ok vy w)
  (he:(Op.equalIn d f.type vx vy).run P w= .ok r w) (hr:(Op.eqFields d xs ys fs).run P w= .ok q w):(Op.eqFields d xs ys (f::fs)).run P w= .ok (r&&q) w:=by
 simp only [Op.eqFields,hn,ne_eq,not_false_eq_true,if_true,Sem.run_bind,ha,hb,he,Result.andThen_ok]
 cases r
 · simp
 · simpa using hr
theorem CR {P:Program} {w:World} {cs:Array Value} {off:Nat} (h1:En P t=true) (hv:cs[off]? =some v):(part t cs off).run P w= .ok v w:=by
 simp [part,Em h1,hv]
theorem Gf {P:Program} {w:World} {d:Nat} {k:IntKind} {a b:Int} (h:P.underlying t=some (.int k)):(Op.equalIn (d+1) t (.int k a) (.int k b)).run P w= .ok (decide (a=b)) w:=by
 rw [run_equalIn_int w d t k k a b h];rfl
end
section
variable {P:Program} {L:Lg P} {E:Env} {I:C1} {o:Oper}
theorem Rt {w:World} {sz:Nat} {A:Option Addr} {cap lo hi:Nat} (h:(slice sz rows).h M w (.slice A rows.length cap)) (h1:lo≤hi) (h2:hi≤rows.length):
  (slice sz ((rows.take hi).drop lo)).h M w (.slice (if cap=lo then A else A.map (·.add (lo*sz))) (hi-lo) (cap-lo)):=by
 obtain ⟨A',cap',hv,hc,hm,hA,hr⟩:=h
 injection hv with e1 _ e3
 subst e1;subst e3
 have hlen:((rows.take hi).drop lo).length=hi-lo:=by rw [List.length_drop,List.length_take];omega
 refine ⟨_,cap-lo,by rw [hlen],by rw [hlen];omega,by omega,fun h=> ?_,fun i row hi'=> ?_⟩
 ·
  split at h
  · have:=hA h;omega
  ·
   cases hA2:A with
   |none=>have:=hA hA2;omega
   |some a=>rw [hA2] at h;cases h
 ·
  rw [List.getElem?_drop,List.getElem?_take] at hi'
  split at hi'
  ·
   rename_i hlt
   obtain ⟨h3,ad,h4,h5⟩:=hr _ row hi'
   subst h4
   rw [if_neg AA]
   refine ⟨h3,_,rfl,fun j p hp=> ?_⟩
   obtain ⟨u,h6,h7,h8,h9⟩:=h5 j p hp
   refine ⟨u,?_,?_,h8,h9⟩
   · rw [add_add,show lo*sz+(i*sz+j)=(lo+i)*sz+j by rw [Nat.add_mul];omega];exact h6
   · rw [Io,ND,show ad.off+lo*sz+(i*sz+j)=ad.off+((lo+i)*sz+j) by rw [Nat.add_mul];omega];exact h7
  · cases hi'
theorem Dp {y:Operand} {k:IntKind} {h:Int} {sz:Nat} (ho:o.op= .slice t x none (some y) none) (ht:P.underlying t=some (.slice e)) (hz:A9 P e=some sz) (hx:VL E x (slice sz rows)) (hy:VL E y (is (.int k h))) (h0:0≤h) (hl:h≤rows.length):
  Ac P I o E (slice sz (rows.take h.toNat)):=
 Ac.same fun M w a he _=>by
  have h1:=hx.ev he Au
  have h3:a.eval y=_:=hy.ev he Au
  obtain ⟨A,cap,hv,hc,hm,hA,hr⟩:=h1
  have h2:=Rt (lo:=0) (hi:=h.toNat) (show (slice sz rows).h M w (.slice A rows.length cap) from ⟨A,cap,rfl,hc,hm,hA,hr⟩) AA AA
  refine ⟨_,?_,by simpa using h2⟩
  have hb:h≤(cap:Int):=by omega
  simp [execOp,ho,hv,h3,Instr.sliceAt,Instr.slice,run_underlying ht,Instr.sliceBounds,Instr.sliceBound,asIntOf,h0,hb,C7 hz]
theorem De {y:Operand} {k:IntKind} {l:Int} {sz:Nat} (ho:o.op= .slice t x (some y) none none) (ht:P.underlying t=some (.slice e)) (hz:A9 P e=some sz) (hx:VL E x (slice sz rows)) (hy:VL E y (is (.int k l))) (h0:0≤l) (hl:l≤rows.length):
  Ac P I o E (slice sz (rows.drop l.toNat)):=
 Ac.same fun M w a he _=>by
  have h1:=hx.ev he Au
  have h3:a.eval y=_:=hy.ev he Au
  obtain ⟨A,cap,hv,hc,hm,hA,hr⟩:=h1
  have h2:=Rt (lo:=l.toNat) (hi:=rows.length) (show (slice sz rows).h M w (.slice A rows.length cap) from ⟨A,cap,rfl,hc,hm,hA,hr⟩) AA (Nat.le_refl _)
  rw [List.take_length] at h2
  refine ⟨_,?_,h2⟩
  simp [execOp,ho,hv,h3,Instr.sliceAt,Instr.slice,run_underlying ht,Instr.sliceBounds,Instr.sliceBound,asIntOf,h0,hl,C7 hz]
end
abbrev NT:Pr:=is (.tuple #[])
section
variable {P:Program} {L:Lg P} {n:Fm} {fz:Nat} {E:Env} {M0:Av} {w0:World} {S:Nat→Prop} {rs:List At} {o:Oper} {g:Func} {M1:Av} {w1:World}
theorem results0 {g:Func} {w:World} (hr:g.results= #[]):(results g a.tmps).run P w= .ok (.tuple #[]) w:=by
 rw [HZ,hr];simp [Sem.run_bind]
theorem Fin.AAQ (hr:g.results= #[]):Fin ⟨fz,[]⟩ E (Hp M0 w0 FO rs) (bodyPost P g (TS M0 w0 NT)) .normal:=by
 rintro a w ⟨M,_,hd,he,hi⟩
 obtain ⟨h1,h2⟩:=Bv.EU M0 w0 M w hi
 exact ⟨hd,_,results0 hr,_,rfl,rfl,h2⟩
theorem Fin.oH {r:At} (hr:g.results= #[]):Fin ⟨fz,[]⟩ E (Hp M0 w0 S (r::Ai M1 w1::rs)) (bodyPost P g (NK M0 w0 S rs M1 w1 NT (fun _=>r))) .normal:=by
 rintro a w ⟨M,_,hd,he,hi⟩
 obtain ⟨h1,h2⟩:=iz hi
 exact ⟨hd,_,results0 hr,_,M,rfl,rfl,h1,h2⟩
def Xl (E:Env) (v0:Value) (q0:Pr):List Operand→List Pr→Prop
 |[],[]=>True
 |x::xs,p::ps=>(VL E x p∨(VL E x (is v0)∧Pr.le (AV v0 q0) p))∧Xl E v0 q0 xs ps
 |_,_=>False
theorem Xl.ev {M M':Av} {w:World} {a:Act} {v0:Value} {q0:Pr} (he:Cn M w E o a) (hx:Ext M w M' w) (h0:q0.h M' w v0):∀{xs:List Operand} {ps:List Pr},(∀x∈xs,x∈o.op.operands.toList)→Xl E v0 q0 xs ps→HL M' w ps (xs.map a.eval)
 |[],[],_,_=>trivial
 |[],_::_,_,h=>h.elim
 |_::_,[],_,h=>h.elim
 |x::xs,p::ps,hm,h=>by
  refine ⟨?_,Xl.ev he hx h0 (fun y hy=>hm y (List.mem_cons_of_mem _ hy)) h.2⟩
  rcases h.1 with h1|⟨h1,h2⟩
  · exact p.st _ _ _ _ _ hx (h1.ev he (hm x AO))
  ·
   have h3:a.eval x=v0:=h1.ev he (hm x AO)
   exact h2 _ _ _ ⟨h3,by rw [h3];exact h0⟩
class KG (p:Pr):Prop where
 free:∀M M' w v,p.h M w v→p.h M' w v
instance AGJ (u:Value):KG (is u):=⟨fun _ _ _ _ h=>h⟩
instance AB3 (m:Nat):KG (lens m):=⟨fun _ _ _ _ h=>h⟩
theorem vV {res:Pr} [KG res] {d cap sz:Nat} (rows:List (List Pr)) (hg:o.guard=none) (hd:o.dst=some d) (hn:d<n) (ho:o.op= .call { callee:= .value (.func f),args:=xs,argTypes:=ts }) (hf:A0 P f ps res) (hl:∀r∈rows,r.length=sz) (hc:rows.length≤cap) (hm:cap≤maxLen) (hq:qs.length=(cap-rows.length)*sz) (hv:Xl E (.slice (some ⟨b,0,none⟩) rows.length cap) (slice sz rows) xs.toList ps):DH P M0 w0 S n j (SR.c (AF true b e (rows.flatten++qs))) (SR.c (AF true b e (rows.flatten++qs))) o E res:=by
 refine ⟨hg,fun M w a rs hsz he hI hj=> ?_⟩
 have hj':rs[j]? =some (AF true b e (rows.flatten++qs)):=hj
 obtain ⟨M',hx,QI,hs⟩:=A7.frz hI hj' hl hc hm hq
 have h1:=hv.ev (o:=o) he hx hs (xs:=xs.toList) (fun x hx=>by simp [ho,Op.operands,Call.operands];exact .inr FL)
 have hrun:(execOp a.eval o).run P w= .ok (.enter f (xs.toList.map a.eval).toArray) w:=by
  simp [execOp,ho,resolve,Deferred.ofValue,Act.eval,invoke,DD hf.1,Fz xs]
 rw [hrun]
 refine (hf.2 M' w _ QI.bd h1).mono ?_
 rintro e' w' ⟨v,rfl,h2,h3⟩
 refine ⟨v,M,rfl,KG.free _ _ _ _ h2,Ext.below h3,?_⟩
 have Ls:rs.set j (SR.at_ (a.put o.dst v) (SR.c (AF true b e (rows.flatten++qs))))=rs:=by
  rw [show SR.at_ (a.put o.dst v) (SR.c (AF true b e (rows.flatten++qs)))=AF true b e (rows.flatten++qs) from AC1 _ _]
  have hjl:j<rs.length:=by rcases Nat.lt_or_ge j rs.length with h|h;exact h;rw [List.getElem?_eq_none h] at hj';cases hj'
  rw [List.getElem?_eq_getElem hjl] at hj'
  simp only [Option.some.injEq] at hj'
  rw [←hj',List.set_getElem_self]
 rw [Ls]
 exact (Hp M0 w0 S rs).st _ _ _ h3 hI
end
def Xm (es:List (Value×Value)):Array MapEntry:=(es.zipIdx.map fun p=>({ key:=p.1.1,val:=p.1.2,born:=p.2 }:MapEntry)).toArray
theorem Ru (es:List (Value×Value)) (i:Nat):(Xm es)[i]? =(es[i]?).map fun p=>{ key:=p.1,val:=p.2,born:=i }:=by
 simp [Xm,List.getElem?_zipIdx]
 cases es[i]? <;>simp
structure AHe (P:Program) (T kt et:TypeId) {κ:Type} [DecidableEq κ] (enc:κ→Value):Prop where
 und:P.underlying T=some (.map kt et)
 zero:∀w,(zeroValue et).run P w= .ok (.int .i64 0) w
 eq:∀a b w,(Op.equal kt (enc a) (enc b)).run P w= .ok (decide (a=b)) w
 chk:∀e a w,(Instr.checkKey e 10000 kt (enc a)).run P w= .ok () w
 AHf:∃d,P.underlying kt=some d∧((∀a b,Instr.sameNow d (enc a) (enc b)=none)∨∀a b,Instr.sameNow d (enc a) (enc b)=some (decide (a=b)))
 bits:∀a,Instr.sameBits 10000 (enc a) (enc a)=true
section
variable {P:Program} {L:Lg P} {n:Fm} {fz:Nat} {E:Env} {M0:Av} {w0:World} {S:Nat→Prop} {rs:List At} {o:Oper} {κ:Type} [DecidableEq κ] {enc:κ→Value}
abbrev Rv (enc:κ→Value) (es:List (κ×Int)):List (Value×Value):=es.map fun p=>(enc p.1,.int .i64 p.2)
def AAR (enc:κ→Value) (b:Nat) (es:List (κ×Int)):At where
 blk:=some b
 new:=true
 h M w:=(∀o,M b o)∧w.heap[b]? =some (.map (Xm (Rv enc es)) es.length)
 st M w M' w' he hk h:=by
  obtain ⟨h1,h2⟩:=hk b rfl
  exact ⟨fun o=>h2 o (h.1 o),h1.trans h.2⟩
def look (es:List (κ×Int)) (k:κ):Option Int:=(es.find? fun p=>decide (k=p.1)).map (·.2)
theorem A7.ADs {w:World} {obj:Obj} {r:At} (h:A7 M0 w0 S rs M w) (hb:r.blk=some w.heap.size) (hn:r.new=true) (hr:r.h (fun b o=>M b o∨b=w.heap.size) (w.alloc obj)):
  A7 M0 w0 S (r::rs) (fun b o=>M b o∨b=w.heap.size) (w.alloc obj)∧Ext M w (fun b o=>M b o∨b=w.heap.size) (w.alloc obj):=by
 have Xj:Below w.heap.size w (w.alloc obj):=(Below.refl _ _).alloc (Nat.le_refl _) _
 have hsz:(w.alloc obj).heap.size=w.heap.size+1:=by simp
 have he:Ext M w (fun b o=>M b o∨b=w.heap.size) (w.alloc obj):=by
  have h2:=Ext.below (M:=M) Xj
  refine ⟨h2.size,fun a v hc hm=>⟨fun hx=> ?_,(h2.keep a v hc hm).2⟩,fun b o ho hp hm=>⟨fun hx=> ?_,(h2.obj b o ho hp hm).2⟩⟩
  ·
   rcases hx with hx|hx
   · exact hm hx
   · exact FM
  · grind
 have hI:=(Hp M0 w0 S rs).st _ _ _ Xj h
 refine ⟨⟨hI.m0,fun b o hm=> .inl (hI.m b o hm),hI.os,hI.tape,hI.output,hI.size,hI.block,fun b o hm=> ?_,fun r' hr'=> ?_,?_⟩,he⟩
 ·
  rcases hm with hm|hm
  · exact hI.bd b o hm
  · omega
 ·
  rcases List.mem_cons.1 hr' with rfl|hr'
  ·
   refine ⟨hr,fun b hbk=> ?_⟩
   rw [hb] at hbk
   injection hbk with hbk
   subst hbk
   exact ⟨by omega,by rw [hn];simpa using h.size⟩
  ·
   obtain ⟨h3,h4⟩:=h.hold r' hr'
   exact ⟨r'.st _ _ _ _ he (fun b hbk=>⟨Xj.block b (h4 b hbk).1,fun _ x=> .inl x⟩) h3,fun b hbk=>⟨by have:=(h4 b hbk).1;omega,(h4 b hbk).2⟩⟩
 ·
  refine List.Pairwise.cons (fun r' hr' b hbk FB=> ?_) h.nd
  rw [hb] at hbk
  injection hbk with hbk
  have:=((h.hold r' hr').2 b FB).1
  omega
def Di (w:World) (b:Nat) (o:Obj):World:={ w with heap:=w.heap.setIfInBounds b o }
theorem vW {w:World} {o:Obj} (h:b<w.heap.size):(Di w b o).heap[b]? =some o:=by
 show (w.heap.setIfInBounds b o)[b]? =_
 rw [Array.getElem?_setIfInBounds];simp [h]
theorem MN {w:World} {o:Obj} (h:k≠b):(Di w b o).heap[k]? =w.heap[k]? :=by
 show (w.heap.setIfInBounds b o)[k]? =_
 rw [Array.getElem?_setIfInBounds,if_neg (fun e=>h e.symm)]
theorem A7.AHg {w:World} {obj:Obj} {r r':At} (h:A7 M0 w0 S rs M w) (hj:rs[j]? =some r) (hb:r.blk=some b) (hb':r'.blk=some b) (hn:r.new=true) (hn':r'.new=true) (hM:∀o,M b o) (hr:r'.h M (Di w b obj)):
  A7 M0 w0 S (rs.set j r') M (Di w b obj)∧Ext M w M (Di w b obj):=by
 have hlt:=((h.hold r (List.mem_of_getElem? hj)).2 b hb).1
 have hsz:(Di w b obj).heap.size=w.heap.size:=by simp [Di]
 have he:Ext M w M (Di w b obj):=by
  refine ⟨by omega,fun a v hc hm=>⟨hm,?_⟩,fun k o ho hp hm=>⟨hm,?_⟩⟩
  · rw [World.cell?_of_block (w:=w) (MN (fun e=>hm (by rw [e];exact hM _)))];exact hc
  · rw [MN (fun e=>hm (by rw [e];exact hM _))];exact ho
 refine ⟨h.replace hj he rfl rfl rfl (fun k _ hk=>MN (fun e=>hk (by rw [hb,e]))) hn (fun _ _ hm _=>hm) (fun k o hm=>by rw [hsz];exact h.bd k o hm) hr hn' (fun k hk=> ?_),he⟩
 rw [hb'] at hk
 injection hk with hk
 subst hk
 exact ⟨by omega,.inl hb⟩
variable {Q:Exit→Act→World→Prop} {ops:Array Oper} {r:List Oper}
def PK (it b m:Nat) (seen:List Nat):At where
 blk:=some it
 new:=true
 h M w:=(∀o,M it o)∧w.heap[it]? =some (.mapIter (some b) m seen.toArray m)
 st M w M' w' he hk h:=by
  obtain ⟨h1,h2⟩:=hk it rfl
  exact ⟨fun o=>h2 o (h.1 o),h1.trans h.2⟩
theorem TO.range {d:Nat} {kt et:TypeId} {es:List (κ×Int)} (hT:AHe P T kt et enc) (hg:o.guard=none) (hd:o.dst=some d) (hn:d<n) (ho:o.op= .range T x) (hx:VL E x (is (.map (some b)))) (hj:rs[j]? =some (AAR enc b es)) (k:∀it,TO P n ops r ((d,ptr it 0)::E) (Hp M0 w0 S (PK it b es.length []::rs)) Q):TO P n ops (o::r) E (Hp M0 w0 S rs) Q:=
 TO.ir hg fun K M w a hsz hdf he hI hK=>by
  have h1:a.eval x=_:=hx.ev (o:=o) (Cj he) Au
  obtain ⟨_,hh⟩:=(A7.hold hI _ (List.mem_of_getElem? hj)).1
  refine TO.val (v:= .pointer (some ⟨w.heap.size,0,none⟩)) (w':=w.alloc (.mapIter (some b) es.length #[] es.length)) ?_ ?_
  · simp [execOp,ho,h1,run_range_map w T kt et b _ _ hT.und hh]
  ·
   obtain ⟨h2,h3⟩:=A7.ADs (obj:= .mapIter (some b) es.length #[] es.length) (r:=PK w.heap.size b es.length []) hI rfl rfl ⟨fun _=> .inr rfl,by rw [heap_alloc_new]⟩
   refine hK _ _ _ _ (k w.heap.size) ⟨_,by rw [CB];exact hsz,by rw [put_defers];exact hdf,?_,h2⟩
   intro s p hp
   simp only [List.lookup] at hp
   by_cases hs:s=d
   · exact RI
   ·
    rw [show (s==d)=false by simpa using hs] at hp
    rw [hd,BW hs]
    exact p.st _ _ _ _ _ h3 (he s p hp)
theorem mem_left {es:List (Value×Value)} {seen:List Nat} {e:MapEntry}:e∈(leftOf (Xm es) seen.toArray).toList↔∃q p,es[q]? =some p∧q∉seen∧e={ key:=p.1,val:=p.2,born:=q }:=by
 unfold leftOf
 rw [Array.toList_filter,List.mem_filter]
 constructor
 ·
  rintro ⟨h1,h2⟩
  obtain ⟨q,hq⟩:=List.mem_iff_getElem?.1 h1
  rw [Array.getElem?_toList,Ru] at hq
  cases hp:es[q]? with
  |none=>rw [hp] at hq;cases hq
  |some p=>
   rw [hp] at hq
   simp only [Option.map_some,Option.some.injEq] at hq
   subst hq
   exact ⟨q,p,hp,by simpa using h2,rfl⟩
 ·
  rintro ⟨q,p,hp,hq,rfl⟩
  exact ⟨List.mem_iff_getElem?.2 ⟨q,by rw [Array.getElem?_toList,Ru,hp];rfl⟩,by simpa using hq⟩
theorem V2 {w:World} (ty:TypeId) {it:Nat} {seen:List Nat} {es:List (Value×Value)} (hm:es.length=m) (hit:w.heap[it]? =some (.mapIter (some b) m seen.toArray m)) (hb:w.heap[b]? =some (.map (Xm es) m)):
  ((∀q,q<m→q∈seen)∧(Instr.next (.pointer (some ⟨it,0,none⟩)) false ty).run P w= .ok (.tuple #[.bool false]) w)∨
  ∃q p,es[q]? =some p∧q∉seen∧∃w1,(w1=w∨w1=w.drew)∧(Instr.next (.pointer (some ⟨it,0,none⟩)) false ty).run P w= .ok (.tuple #[.bool true,p.1,p.2]) (Di w1 it (.mapIter (some b) m (seen++[q]).toArray m)):=by
 have hold:∀x∈(Xm es).toList,x.born<m:=by
  intro x hx
  obtain ⟨q,hq⟩:=List.mem_iff_getElem?.1 hx
  rw [Array.getElem?_toList,Ru] at hq
  cases hp:es[q]? with
  |none=>rw [hp] at hq;cases hq
  |some p=>
   rw [hp] at hq
   simp only [Option.map_some,Option.some.injEq] at hq
   subst hq
   show q<m
   rcases Nat.lt_or_ge q es.length with h|h
   · omega
   · grind
 simp only [Instr.next,getObj,Sem.run_bind,Sem.run,hit,hb,Result.andThen,next_test_false seen.toArray (Xm es) m m hold (Nat.le_refl _),Bool.false_eq_true,if_false]
 have hleft:(Xm es).filter (fun e=> !seen.toArray.contains e.born)=leftOf (Xm es) seen.toArray:=rfl
 rw [hleft]
 have hmem:∀x∈(leftOf (Xm es) seen.toArray).toList,x.born<m:=fun x hx=>by grind
 have hml:∀e,e∈(leftOf (Xm es) seen.toArray).toList↔∃q p,es[q]? =some p∧q∉seen∧e={ key:=p.1,val:=p.2,born:=q }:=fun e=>mem_left
 generalize leftOf (Xm es) seen.toArray=L at hmem hml ⊢
 have e1:L.filter (fun x=>decide (x.born<m))=L:=Array.filter_eq_self.2 (fun x hx=>by simpa using hmem x FL)
 have e2:L.filter (fun x=>decide (x.born≥m))= #[]:=by
  rw [Array.filter_eq_empty_iff]
  intro x hx
  have:=hmem x FL
  simp
  omega
 simp only [e1,e2,Array.append_empty]
 by_cases h0:L.size=0
 ·
  left
  have hL:L= #[]:=Array.eq_empty_of_size_eq_zero h0
  refine ⟨fun q hq=> ?_,?_⟩
  ·
   rcases Classical.em (q∈seen) with h|h
   · exact h
   ·
    have:=(hml { key:=(es[q]'(by omega)).1,val:=(es[q]'(by omega)).2,born:=q }).2 ⟨q,es[q]'(by omega),List.getElem?_eq_getElem AA,h,rfl⟩
    rw [hL] at this;simp at this
  ·
   subst hL
   simp [choose,Sem.run,Question.forced]
 ·
  right
  have hne:L.isEmpty=false:=by simp [Array.isEmpty,h0]
  simp only [hne,Bool.false_eq_true,if_false,Array.empty_append,Array.size_map]
  have hch:∃(j:Nat) (w1:World),j<L.size∧(w1=w∨w1=w.drew)∧(choose (Question.mapNext L.size)).run P w= .ok j w1:=by
   by_cases hf:L.size≤1
   · exact ⟨0,w,by omega,.inl rfl,by simp [choose,Sem.run,Question.forced,hf]⟩
   ·
    exact ⟨_,w.drew,Nat.mod_lt _ AA,.inr rfl,by
     simp only [choose,Sem.run,Question.forced,decide_eq_true_eq,hf,if_false,Question.cut]
     rfl⟩
  obtain ⟨j,w1,hj,hal,hrun⟩:=hch
  obtain ⟨q,p,hq1,ig,hq3⟩:=(hml L[j]).1 AO
  refine ⟨q,p,hq1,ig,w1,hal,?_⟩
  have hw1:w1.heap=w.heap:=by rcases hal with rfl|rfl<;>rfl
  have Ls:∀(o':Obj),(setObj it o').run P w1= .ok () (Di w1 it o'):=fun o'=>by
   have AHh:w1.heap[it]? =some (.mapIter (some b) m seen.toArray m):=by rw [hw1];exact hit
   simp only [setObj,Sem.run,AHh]
   rfl
  simp only [hrun,Array.getElem?_map,Array.getElem?_eq_getElem hj,Option.map_some,Sem.run_bind,Ls,Result.andThen]
  rw [hq3]
  simp
omit [DecidableEq κ] in
theorem TO.next {d it:Nat} {es:List (κ×Int)} {seen:List Nat} (hg:o.guard=none) (hd:o.dst=some d) (hn:d<n) (ho:o.op= .next x false) (hx:VL E x (ptr it 0)) (hi:rs[i]? =some (PK it b es.length seen)) (hj:rs[j]? =some (AAR enc b es)) (k1:(∀q,q<es.length→q∈seen)→TO P n ops r ((d,C_ [bool false])::E) (Hp M0 w0 S rs) Q) (k2:∀q p,es[q]? =some p→q∉seen→TO P n ops r ((d,C_ [bool true,is (enc p.1),int p.2])::E) (Hp M0 w0 S (rs.set i (PK it b es.length (seen++[q])))) Q):TO P n ops (o::r) E (Hp M0 w0 S rs) Q:=
 TO.ir hg fun K M w a hsz hdf he hI hK=>by
  have h1:a.eval x= .pointer (some ⟨it,0,none⟩):=hx.ev (o:=o) (Cj he) Au
  obtain ⟨⟨hMi,hit⟩,hbi⟩:=A7.hold hI _ (List.mem_of_getElem? hi)
  obtain ⟨_,hh⟩:=(A7.hold hI _ (List.mem_of_getElem? hj)).1
  have hlt:=(hbi it rfl).1
  rcases V2 (P:=P) o.type (es:=Rv enc es) (by simp [Rv]) hit hh with ⟨h2,h3⟩|⟨q,p,h2,h3,w1,h4,h5⟩
  ·
   refine TO.val (v:= .tuple #[.bool false]) (w':=w) ?_ ?_
   · simp [execOp,ho,h1,h3]
   ·
    refine hK _ _ _ _ (k1 h2) ⟨M,by rw [CB];exact hsz,by rw [put_defers];exact hdf,?_,hI⟩
    intro s p hp
    simp only [List.lookup] at hp
    by_cases hs:s=d
    · subst hs;simp at hp;subst hp;rw [hd,Bz Gx];exact ⟨_,rfl,rfl,trivial⟩
    ·
     rw [show (s==d)=false by simpa using hs] at hp
     rw [hd,BW hs];exact he s p hp
  ·
   have V3:∃p',es[q]? =some p'∧p=(enc p'.1,.int .i64 p'.2):=by
    simp only [Rv,List.getElem?_map] at h2
    cases h:es[q]? with
    |none=>rw [h] at h2;cases h2
    |some p'=>rw [h] at h2;simp at h2;exact ⟨p',rfl,h2.symm⟩
   obtain ⟨p',hp',rfl⟩:=V3
   refine TO.val (v:= .tuple #[.bool true,enc p'.1,.int .i64 p'.2]) (w':=Di w1 it (.mapIter (some b) es.length (seen++[q]).toArray es.length)) ?_ ?_
   · simp [execOp,ho,h1,h5]
   ·
    have AAS:Below w.heap.size w w1:=by
     rcases h4 with rfl|rfl
     · exact Below.refl _ _
     · exact (Below.refl _ _).drew
    have hI1:=(Hp M0 w0 S rs).st _ _ _ AAS hI
    obtain ⟨h6,h7⟩:=A7.AHg (obj:= .mapIter (some b) es.length (seen++[q]).toArray es.length) (r':=PK it b es.length (seen++[q])) hI1 hi rfl rfl rfl rfl hMi ⟨hMi,vW (Nat.lt_of_lt_of_le hlt AAS.size)⟩
    refine hK _ _ _ _ (k2 q p' hp' h3) ⟨M,by rw [CB];exact hsz,by rw [put_defers];exact hdf,?_,h6⟩
    intro s p hp
    simp only [List.lookup] at hp
    by_cases hs:s=d
    · subst hs;simp at hp;subst hp;rw [hd,Bz Gx];exact ⟨_,rfl,rfl,rfl,rfl,trivial⟩
    ·
     rw [show (s==d)=false by simpa using hs] at hp
     rw [hd,BW hs]
     exact p.st _ _ _ _ _ ((Ext.below AAS).trans h7) (he s p hp)
omit [DecidableEq κ] in
theorem TO.entry {d it q:Nat} {es:List (κ×Int)} {seen:List Nat} {p:κ×Int} (hg:o.guard=none) (hd:o.dst=some d) (hn:d<n) (ho:o.op= .entry x) (hx:VL E x (ptr it 0)) (hi:rs[i]? =some (PK it b es.length (seen++[q]))) (hj:rs[j]? =some (AAR enc b es)) (hq:es[q]? =some p) (k:TO P n ops r ((d,C_ [is (enc p.1),int p.2])::E) (Hp M0 w0 S rs) Q):TO P n ops (o::r) E (Hp M0 w0 S rs) Q:=
 TO.ir hg fun K M w a hsz hdf he hI hK=>by
  have h1:a.eval x= .pointer (some ⟨it,0,none⟩):=hx.ev (o:=o) (Cj he) Au
  obtain ⟨⟨_,hit⟩,_⟩:=A7.hold hI _ (List.mem_of_getElem? hi)
  obtain ⟨_,hh⟩:=(A7.hold hI _ (List.mem_of_getElem? hj)).1
  have hat:(Xm (Rv enc es))[q]? =some { key:=enc p.1,val:= .int .i64 p.2,born:=q }:=by rw [Ru];simp [Rv,hq]
  have hnd:((Xm (Rv enc es)).toList.map (·.born)).Nodup:=by
   have:(Xm (Rv enc es)).toList.map (·.born)=List.range (Rv enc es).length:=by
    apply List.ext_getElem?
    intro k
    rw [List.getElem?_map,Array.getElem?_toList,Ru]
    by_cases hk:k<(Rv enc es).length
    · rw [List.getElem?_range hk,List.getElem?_eq_getElem hk];rfl
    · rw [List.getElem?_eq_none (Nat.le_of_not_lt hk),List.getElem?_eq_none (by simp at hk ⊢;omega)];rfl
   rw [this];exact List.nodup_range
  have hfind:(Xm (Rv enc es)).find? (fun e=>e.born==q)=some { key:=enc p.1,val:= .int .i64 p.2,born:=q }:=by
   rw [←Array.find?_toList]
   exact find_born { key:=enc p.1,val:= .int .i64 p.2,born:=q } _ hnd (List.mem_iff_getElem?.2 ⟨q,by rw [Array.getElem?_toList];exact hat⟩)
  refine TO.val (v:= .tuple #[enc p.1,.int .i64 p.2]) (w':=w) ?_ ?_
  ·
   have:(Instr.entry (.pointer (some ⟨it,0,none⟩))).run P w= .ok (.tuple #[enc p.1,.int .i64 p.2]) w:=by
    have hb:(seen++[q]).toArray.back? =some q:=by simp
    simp only [Instr.entry,getObj,Sem.run_bind,Sem.run,hit,hh,Result.andThen,hb,bne_self_eq_false,Bool.false_eq_true,if_false,hfind]
    rfl
   simp [execOp,ho,h1,this]
  ·
   refine hK _ _ _ _ k ⟨M,by rw [CB];exact hsz,by rw [put_defers];exact hdf,?_,hI⟩
   intro s p hp
   simp only [List.lookup] at hp
   by_cases hs:s=d
   · subst hs;simp at hp;subst hp;rw [hd,Bz Gx];exact ⟨_,rfl,rfl,rfl,trivial⟩
   ·
    rw [show (s==d)=false by simpa using hs] at hp
    rw [hd,BW hs];exact he s p hp
end
section
variable {P:Program} {L:Lg P}
end
section
variable {P:Program} {L:Lg P} {n:Fm} {fz:Nat} {E:Env} {M0:Av} {w0:World} {S:Nat→Prop} {rs:List At} {o:Oper}
theorem Pn (w:World) (A:Option Addr) (t ty e:TypeId) (i:TypeInfo) (z:Value) (ht:P.underlying t=some (.slice e)) (hi:P.info? e=some i) (hz:i.zero=some z)
  (a:Addr) (n c:Nat) (news:List Value) (hl:news.length=n*i.size) (hnews:∀j v,news[j]? =some v→w.cell? (a.add j)=some v)
  (h0:0<n) (h63:(n:Int)≤9223372036854775807) (h48:n*i.bytes≤281474976710656):
  (Builtin.append_ #[t, t] ty #[.slice A 0 0, .slice (some a) n c]).run P w =
   .ok (.slice (some ⟨w.heap.size,0,none⟩) n (grownCap w n 0 e)) (w.drew.alloc (.cells (news.toArray++Builtin.zeroCells z.cells (grownCap w n 0 e-n)) e)):=by
 cases A with
 |none=>exact run_append_nil (w:=w) t ty e i z ht hi hz a n c news hl hnews h0 h63 h48
 |some b=>
  have:=run_append_grow (w:=w) t ty e i z ht hi hz b 0 0 [] AO AO a n c news hl hnews AA (by simpa using h63) (by rw [Nat.zero_add,nextslicecap_zero h0];exact h48)
  simpa using this
theorem Xn {w:World} {ty:TypeId} {sz bytes:Nat} {u:Value} (A:Option Addr) (ht:P.underlying t=some (.slice e)) (hz:A9 P e=some sz) (hby:B1 P e=some bytes) (Ev:BZ P e=some zs) (hzl:zs.length=sz) (hone:zs.all (·.oneCell')=true) (hsz:0<sz) (h:A7 M0 w0 S rs M w) (hj:rs[j]? =some Bf) (hu:(slice sz rows).h M w u) (hpos:0<rows.length) (HF:rows.length≤maxLen) (hfit:rows.length*bytes≤140737488355328):
  ∃v' w' M',(Builtin.append_ #[t,t] ty #[.slice A 0 0,u]).run P w= .ok v' w'∧(lens rows.length).h M' w' v'∧Ext M w M' w'∧A7 M0 w0 S (rs.set j (EN e sz rows v')) M' w':=by
 unfold A9 at hz
 unfold B1 at hby
 unfold BZ at Ev
 cases hi:P.info? e with
 |none=>rw [hi] at hz;cases hz
 |some i=>
  rw [hi] at hz hby Ev
  simp only [Option.map_some,Option.some.injEq,Option.map_eq_some_iff] at hz hby Ev
  obtain ⟨z,eV,Ev⟩:=Ev
  have l6:z.cells.size=sz:=by rw [←hzl,←Ev];simp
  obtain ⟨A',c',rfl,hmc,Z0,hA',HW⟩:=hu
  have T6:(slice sz rows).h M w (.slice A' rows.length c'):=⟨A',c',rfl,hmc,Z0,hA',HW⟩
  obtain ⟨UB,rfl⟩:∃UB,A'=some UB:=by
   obtain ⟨_,b,hb,_⟩:=HW 0 _ (List.getElem?_eq_getElem hpos)
   exact ⟨b,hb⟩
  obtain ⟨news,hfl,hcell⟩:=GN hsz T6
  have hrun:=Pn (P:=P) w A t ty e i z ht hi eV UB rows.length c' news (by rw [hz];exact hfl.1) (fun k u hk=>(hcell k u hk).1) hpos VX (by rw [hby];omega)
  generalize hcap:grownCap w rows.length 0 e=cap at hrun
  have hge:rows.length≤cap:=by rw [←hcap];exact grownCap_ge _ _ _ _
  have hle:cap≤maxLen:=by rw [←hcap];exact grownCap_le_maxLen _ _ _ _ HF
  generalize TX:Builtin.zeroCells z.cells (cap-rows.length)=zc at hrun
  have hzs:zc.size=(cap-rows.length)*sz:=by rw [←TX,size_zeroCells,l6]
  have hzo:∀c∈zc.toList,c.oneCell'=true:=by rw [←TX];exact Ge Ev hone
  have hb:Below w.heap.size w (w.drew.alloc (.cells (news.toArray++zc) e)):=((Below.refl _ _).drew).alloc (Nat.le_refl _) _
  have h2:=Ext.below (M:=M) hb
  have FE:Ext M w (fun b o=>M b o∨b=w.heap.size) (w.drew.alloc (.cells (news.toArray++zc) e)):=by
   refine ⟨h2.size,fun a v hc hm=>⟨fun hx=> ?_,(h2.keep a v hc hm).2⟩,fun b o ho hp hm=>⟨fun hx=> ?_,(h2.obj b o ho hp hm).2⟩⟩
   ·
    rcases hx with hx|hx
    · exact hm hx
    · exact FM
   · grind
  have hs1:(w.drew.alloc (.cells (news.toArray++zc) e)).heap.size=w.heap.size+1:=by simp
  refine ⟨_,_,fun b o=>M b o∨b=w.heap.size,hrun,⟨_,_,rfl⟩,FE,?_⟩
  refine h.replace hj FE hb.os hb.tape hb.output (fun k hk _=>hb.block k hk) rfl (fun b o hm _=> .inl hm) (fun b o hx=> ?_) ?_ rfl (fun b hbk=> ?_)
  ·
   rcases hx with hx|hx
   · exact NC
   · omega
  ·
   refine ⟨w.heap.size,cap,zc.toList,rfl,hge,hle,by simpa using hzs,fun o=> .inr rfl,news++zc.toList,?_,?_,?_⟩
   ·
    have hh:(w.drew.alloc (.cells (news.toArray++zc) e)).heap[w.heap.size]? =some (.cells (news.toArray++zc) e (0,0)):=heap_alloc_new w.drew _
    rw [hh];simp
   · exact ((hfl.st FE).hl hsz).app (KV _ _ _)
   ·
    intro c hc
    rcases List.mem_append.1 hc with hc|hc
    · exact hfl.2.1 c hc
    · exact hzo c hc
  ·
   have FB:some w.heap.size=some b:=hbk
   injection FB with e1
   subst e1
   exact ⟨by rw [hs1];omega,.inr (Nat.le_refl _)⟩
theorem Jc {y:Operand} {sz':Nat} {sz bytes d:Nat} (hg:o.guard=none) (hd:o.dst=some d) (hn:d<n) (ho:o.op= .call { callee:= .builtin .append,args:= #[x,y],argTypes:= #[t,t] }) (ht:P.underlying t=some (.slice e)) (hz:A9 P e=some sz) (hby:B1 P e=some bytes) (Ev:BZ P e=some zs) (hzl:zs.length=sz) (hone:zs.all (·.oneCell')=true) (hsz:0<sz) (hx:VL E x (full sz' [])) (hy:VL E y (slice sz rows)) (hpos:0<rows.length) (HF:rows.length≤maxLen) (hfit:rows.length*bytes≤140737488355328):DH P M0 w0 S n j (SR.c Bf) ⟨d,EN e sz rows⟩ o E (lens rows.length):=by
 refine ⟨hg,fun M w a rs VM he hI hj=> ?_⟩
 have h2:=hy.ev he DG
 obtain ⟨_,A,h1⟩:=hx.ev he DG
 simp only [List.length_nil] at h1
 obtain ⟨v',w',M',hrun,h3,h4,h5⟩:=Xn A (ty:=o.type) ht hz hby Ev hzl hone hsz hI hj h2 hpos HF hfit
 have Ee:(execOp a.eval o).run P w= .ok (.value v') w':=by simp [execOp,ho,resolve,invoke,builtin,h1,hrun]
 rw [Ee]
 refine ⟨M',h3,h4,?_⟩
 have:(SR.at_ (a.put o.dst v') ⟨d,EN e sz rows⟩)=EN e sz rows v':=by unfold SR.at_ Slot.val;dsimp only;rw [hd,Bz H6]
 rw [this];exact h5
theorem LV {I:C1} {A:Option Addr} {cap:Nat} (ho:o.op= .call { callee:= .builtin .len,args:= #[x],argTypes:= #[t] }) (ht:P.underlying t=some (.slice e)) (hx:VL E x (is (.slice A m cap))):Ac P I o E (int m):=
 Ac.same fun M w a he _=>by
  have h1:a.eval x=_:=hx.ev he DG
  exact ⟨.int .i64 m,by simp [execOp,ho,resolve,invoke,builtin,Builtin.len_,h1,run_underlying ht,goInt],rfl⟩
theorem PL {I:C1} {y:Operand} {k:IntKind} {h:Int} {sz cap:Nat} (ho:o.op= .slice t x none (some y) none) (ht:P.underlying t=some (.slice e)) (hz:A9 P e=some sz) (hx:VL E x (is (.slice (some ⟨b,0,none⟩) m cap))) (hy:VL E y (is (.int k h))) (h0:0≤h) (hl:h≤m) (hc:m≤cap) (h1m:0<cap):
  Ac P I o E (is (.slice (some ⟨b,0,none⟩) h.toNat cap)):=
 Ac.same fun M w a he _=>by
  have h1:a.eval x=_:=hx.ev he Au
  have h3:a.eval y=_:=hy.ev he Au
  have hb:h≤(cap:Int):=by omega
  refine ⟨_,?_,rfl⟩
  simp [execOp,ho,h1,h3,Instr.sliceAt,Instr.slice,run_underlying ht,Instr.sliceBounds,Instr.sliceBound,asIntOf,h0,hb,C7 hz]
  intro _;rfl
theorem Td {I:C1} {y:Operand} {k:IntKind} {l:Int} {sz cap:Nat} (ho:o.op= .slice t x (some y) none none) (ht:P.underlying t=some (.slice e)) (hz:A9 P e=some sz) (hx:VL E x (is (.slice (some ⟨b,0,none⟩) m cap))) (hy:VL E y (is (.int k l))) (h0:0≤l) (hl:l<m) (hc:m≤cap):
  Ac P I o E (is (.slice (some ⟨b,l.toNat*sz,none⟩) (m-l.toNat) (cap-l.toNat))):=
 Ac.same fun M w a he _=>by
  have h1:a.eval x=_:=hx.ev he Au
  have h3:a.eval y=_:=hy.ev he Au
  have hb:l≤(m:Int):=by omega
  have hne:¬cap=l.toNat:=by omega
  refine ⟨_,?_,rfl⟩
  simp [execOp,ho,h1,h3,Instr.sliceAt,Instr.slice,run_underlying ht,Instr.sliceBounds,Instr.sliceBound,asIntOf,h0,hb,C7 hz,hne,F1]
theorem vX {w:World} {z:Array Value} (hz:z.toList=zs) (h0:0<zs.length):HL M w (List.replicate k (zs.map is)).flatten (Builtin.zeroCells z k).toList:=by
 have hlr:∀r∈List.replicate k (zs.map is),r.length=zs.length:=fun r hr=>by grind
 have hfl:=C5 hlr
 rw [List.length_replicate] at hfl
 have hzs:z.size=zs.length:=by rw [←hz];simp
 refine UH (by rw [Array.length_toList,size_zeroCells,hfl,hzs]) fun i p hi=> ?_
 have Gm:i<k*zs.length:=by grind
 have hq:i/zs.length<k:=Nat.div_lt_of_lt_mul (by rw [Nat.mul_comm];exact Gm)
 have hm:i % zs.length<zs.length:=Nat.mod_lt _ h0
 have he:i/zs.length*zs.length+i % zs.length=i:=by rw [Nat.mul_comm];exact Nat.div_add_mod i _
 rw [←he,IF hlr (by rw [List.getElem?_replicate,if_pos hq]) hm,List.getElem?_map,List.getElem?_eq_getElem hm] at hi
 simp only [Option.map_some,Option.some.injEq] at hi
 subst hi
 refine ⟨zs[i % zs.length],?_,rfl⟩
 have hzl:i<k*z.size:=by rw [hzs];exact Gm
 simp only [Builtin.zeroCells,Array.toList_map,Array.toList_range,List.getElem?_map]
 rw [List.getElem?_range hzl]
 subst hz
 simp only [Option.map_some,Option.some.injEq]
 have hm':i % z.size<z.size:=by rw [hzs];exact hm
 rw [getElem!_pos z _ hm',←Array.getElem_toList]
 congr 1
theorem oJ {new:Bool} {off cap sz:Nat} {ps':List Pr} (hg:o.guard=none) (ho:o.op= .call { callee:= .builtin .clear,args:= #[x],argTypes:= #[t] }) (ht:P.underlying t=some (.slice e)) (hz:A9 P e=some sz) (Ev:BZ P e=some zs) (hzl:zs.length=sz) (hone:zs.all (·.oneCell')=true) (hsz:0<sz) (hx:VL E x (is (.slice (some ⟨b,off,none⟩) m cap))) (hm:0<m) (hl:off+m*sz≤ps.length) (hps:ps.take off++(List.replicate m (zs.map is)).flatten++ps.drop (off+m*sz)=ps'):DH P M0 w0 S n j (SR.c (AF new b T ps)) (SR.c (AF new b T ps')) o E any:=by
 refine ⟨hg,fun M w a rs VM he hI hj=> ?_⟩
 have h1:a.eval x=_:=hx.ev he DG
 unfold BZ at Ev
 cases hi:P.info? e with
 |none=>rw [hi] at Ev;cases Ev
 |some i=>
  rw [hi] at Ev
  simp only [Option.map_eq_some_iff] at Ev
  obtain ⟨z,eV,Ev⟩:=Ev
  have l6:z.cells.size=sz:=by rw [←hzl,←Ev];simp
  obtain ⟨⟨_,cs,h4,h5,h6⟩,_⟩:=hI.hold _ (List.mem_of_getElem? hj)
  have h5l:=h5.length
  have hzs:(Builtin.zeroCells z.cells m).size=m*sz:=by rw [size_zeroCells,l6]
  have h3:∀c∈(Builtin.zeroCells z.cells m).toList,c.oneCell'=true:=Ge Ev hone
  have hrun:(storeCells ⟨b,off,none⟩ (Builtin.zeroCells z.cells m).toList 0).run P w= .ok () (w.setRow b (cs.take off++(Builtin.zeroCells z.cells m).toList++cs.drop (off+m*sz)).toArray):=by
   have:=run_storeCells_at (P:=P) b off T (Builtin.zeroCells z.cells m).toList 0 cs.toArray w h4 (by simp [hzs];omega) h3
   simpa [hzs] using this
  obtain ⟨m',rfl⟩:∃m',m=m'+1:=⟨m-1,by omega⟩
  have Ee:(execOp a.eval o).run P w= .ok (.value (.tuple #[])) (w.setRow b (cs.take off++(Builtin.zeroCells z.cells (m'+1)).toList++cs.drop (off+(m'+1)*sz)).toArray):=by
   simp [execOp,ho,h1,resolve,invoke,builtin,Builtin.clear_,run_underlying ht,zeroValue,typeInfo,hi,eV,hrun]
  rw [Ee]
  obtain ⟨h7, h8⟩ := A7.write (qs := ps') (cs := cs.take off ++ (Builtin.zeroCells z.cells (m' + 1)).toList ++ cs.drop (off + (m' + 1) * sz)) hI hj (by rw [← hps]; exact (((h5.take off).app (vX Ev AA))).app (h5.drop (off + (m' + 1) * sz)))
   (fun c hc=>by
    simp only [List.mem_append] at hc
    rcases hc with (hc|hc)|hc
    · grind
    · exact h3 c hc
    · exact h6 c (List.mem_of_mem_drop hc))
  exact ⟨M,trivial,h8,h7⟩
theorem oK {β:Type} {f:β→List Pr} {l:List β} {sz:Nat} (hf:∀x,(f x).length=sz) {x:β} (h:l[i]? =some x):((((l.map f).flatten++qs).drop (i*sz)).take sz)=f x:=by
 have hl:∀r∈l.map f,r.length=sz:=fun r hr=>by grind
 have hi:i<l.length:=by grind
 have hfl:=C5 hl
 rw [List.length_map] at hfl
 have hle:(i+1)*sz≤l.length*sz:=Nat.mul_le_mul_right sz hi
 rw [Nat.add_mul,Nat.one_mul] at hle
 apply List.ext_getElem?
 intro k
 rw [List.getElem?_take]
 split
 ·
  rename_i hk
  rw [List.getElem?_drop,List.getElem?_append_left (by rw [hfl];omega),IF hl (by rw [List.getElem?_map,h];rfl) hk]
 · grind
theorem OX {β:Type} {f:β→List Pr} {sz:Nat} (hf:∀x,(f x).length=sz):∀{l:List β} {qs:List Pr} {i:Nat} {x:β},i<l.length→((l.map f).flatten++qs).take (i*sz)++f x++((l.map f).flatten++qs).drop (i*sz+sz)=((l.set i x).map f).flatten++qs
 |[],_,_,_,h=>by simp at h
 |a::l,qs,0,x,_=>by
  simp only [List.map_cons,List.flatten_cons,Nat.zero_mul,List.take_zero,List.nil_append,Nat.zero_add,List.set_cons_zero]
  rw [←hf a,List.append_assoc,List.drop_left,List.append_assoc]
 |a::l,qs,i+1,x,h=>by
  have ih:=OX hf (l:=l) (qs:=qs) (i:=i) (x:=x) EJ
  simp only [List.map_cons,List.flatten_cons,List.set_cons_succ]
  have e1:(i+1)*sz=(f a).length+i*sz:=by rw [hf a,Nat.add_mul];omega
  rw [List.append_assoc,List.append_assoc,e1,List.take_append,List.take_of_length_le AA,show (f a).length+i*sz-(f a).length=i*sz by omega,show (f a).length+i*sz+sz=(f a).length+(i*sz+sz) by omega,List.drop_append,List.drop_of_length_le AA,show (f a).length+(i*sz+sz)-(f a).length=i*sz+sz by omega,List.nil_append,List.append_assoc (f a) _ qs,←ih]
  simp only [List.append_assoc]
theorem TO.PJ {r:List Oper} {Q:Exit→Act→World→Prop} {sz:Nat} (j:Nat) (hj:rs[j]? =some (EN e sz rows v)) (k:∀(b cap:Nat) (spare:List Value),v= .slice (some ⟨b,0,none⟩) rows.length cap→rows.length≤cap→cap≤maxLen→spare.length=(cap-rows.length)*sz→TO P n ops r E (Hp M0 w0 S (rs.set j (AF true b e (rows.flatten++spare.map is)))) Q):TO P n ops r E (Hp M0 w0 S rs) Q:=
 fun m hl a w hs=>let ⟨b,cap,spare,h1,h2,h3,h4,h5⟩:=hs.PJ j hj;k b cap spare h1 h2 h3 h4 m hl a w h5
theorem LH {β:Type} {f:β→List Pr} {l:List β} {sz:Nat} (hf:∀x,(f x).length=sz):((l.map f).flatten++qs).length=l.length*sz+qs.length:=by
 rw [List.length_append,C5 (sz:=sz) (fun r hr=>by obtain ⟨y,_,rfl⟩:=List.mem_map.1 hr;exact hf y),List.length_map]
theorem AW {β:Type} {f:β→List Pr} {l:List β} {sz:Nat} (hf:∀x,(f x).length=sz):∀r∈l.map f,r.length=sz:=by grind
theorem Z7 {β:Type} {f:β→List Pr} {sz:Nat} (hf:∀x,(f x).length=sz) {l:List β} {x:β} (h:i<l.length):((l.map f).flatten++qs).take (0+((i:Nat):Int).toNat*sz)++f x++((l.map f).flatten++qs).drop (0+((i:Nat):Int).toNat*sz+sz)=((l.set i x).map f).flatten++qs:=by
 rw [Nat.zero_add,Int.toNat_natCast];exact OX hf h
def Xo {β:Type} (p:β→Bool) (l st:List β) (i j:Nat):Prop:=st.length=l.length∧i<j∧j≤l.length∧st.take i=(l.take j).filter (fun x=> !p x)∧st.drop j=l.drop j
theorem oQ {β:Type} {p:β→Bool} {l st:List β} {x:β} (h:Xo p l st i j) (hx:l[j]? =some x) (hp:p x=false):Xo p l (st.set i x) (i+1) (j+1):=by
 obtain ⟨h1,h2,h3,h4,h5⟩:=h
 have hj:j<l.length:=by grind
 refine ⟨by rw [List.length_set,h1],by omega,hj,?_,?_⟩
 ·
  rw [List.take_add_one,List.getElem?_set_self AA,List.take_set_of_le (Nat.le_refl _),h4,List.take_add_one,hx,List.filter_append]
  simp [hp]
 · rw [List.drop_set_of_lt AA,←List.drop_drop,←List.drop_drop,h5]
theorem oV {β:Type} {p:β→Bool} {l st:List β} {x:β} (h:Xo p l st i j) (hx:l[j]? =some x) (hp:p x=true):Xo p l st i (j+1):=by
 obtain ⟨h1,h2,h3,h4,h5⟩:=h
 have hj:j<l.length:=by grind
 refine ⟨h1,by omega,hj,?_,?_⟩
 · rw [h4,List.take_add_one,hx,List.filter_append];simp [hp]
 · rw [←List.drop_drop,←List.drop_drop,h5]
theorem AAT {β:Type} {p:β→Bool} {l st:List β} (h:Xo p l st i j):st[j]? =l[j]? :=by
 have:=congrArg (fun q=>q[0]?) h.2.2.2.2
 simpa using this
theorem vY {β:Type} {p:β→Bool} {l st:List β} (h:Xo p l st i l.length):st.take i=l.filter (fun x=> !p x)∧i=(l.filter (fun x=> !p x)).length∧st.length=l.length∧i<l.length:=by
 obtain ⟨h1,h2,h3,h4,h5⟩:=h
 rw [List.take_length] at h4
 exact ⟨h4,by rw [←h4,List.length_take];omega,h1,h2⟩
theorem St.Z8 {cap sz:Nat} (j d:Nat) (hj:rs[j]? =some (AF true b e (rows.flatten++qs))) (hd:E.lookup d=some p) (hp:Pr.le p (is (.slice (some ⟨b,0,none⟩) rows.length cap))) (hl:∀r∈rows,r.length=sz) (hc:rows.length≤cap) (hm:cap≤maxLen) (hq:qs.length=(cap-rows.length)*sz) {w:World} (h:St n E (Hp M0 w0 S rs) a w):St n ((d,AV (.slice (some ⟨b,0,none⟩) rows.length cap) (slice sz rows))::E) (Hp M0 w0 S (rs.set j (As e sz (.slice (some ⟨b,0,none⟩) rows.length cap)))) a w:=by
 obtain ⟨M,h1,h2,h3,h4⟩:=h
 obtain ⟨M',h5,h6,h7⟩:=A7.frz h4 hj hl hc hm hq
 refine ⟨M',h1,h2,fun s q hs=> ?_,h6⟩
 simp only [List.lookup] at hs
 split at hs
 ·
  rename_i e1
  have:s=d:=by simpa using e1
  subst this
  simp only [Option.some.injEq] at hs
  subst hs
  have h8:=hp _ _ _ (h3 _ _ hd)
  exact ⟨h8,by rw [show a.tmps.getD s undef=_ from h8];exact h7⟩
 · exact q.st _ _ _ _ _ h5 (h3 s q hs)
theorem Tr.Z8 {Q:Exit→Act→World→Prop} {c:Code} {cap sz:Nat} (rows:List (List Pr)) (j d:Nat) (hj:rs[j]? =some (AF true b e (rows.flatten++qs))) (hd:E.lookup d=some p) (hp:Pr.le p (is (.slice (some ⟨b,0,none⟩) rows.length cap))) (hl:∀r∈rows,r.length=sz) (hc:rows.length≤cap) (hm:cap≤maxLen) (hq:qs.length=(cap-rows.length)*sz) (k:Tr L n ((d,AV (.slice (some ⟨b,0,none⟩) rows.length cap) (slice sz rows))::E) (Hp M0 w0 S (rs.set j (As e sz (.slice (some ⟨b,0,none⟩) rows.length cap)))) c Q):Tr L n E (Hp M0 w0 S rs) c Q:=
 Tr.conv (fun _ _ hs=>hs.Z8 j d hj hd hp hl hc hm hq) k
theorem Fin.Z8 {Q:Exit→Act→World→Prop} {x:Exit} {cap sz:Nat} (rows:List (List Pr)) (j d:Nat) (hj:rs[j]? =some (AF true b e (rows.flatten++qs))) (hd:E.lookup d=some p) (hp:Pr.le p (is (.slice (some ⟨b,0,none⟩) rows.length cap))) (hl:∀r∈rows,r.length=sz) (hc:rows.length≤cap) (hm:cap≤maxLen) (hq:qs.length=(cap-rows.length)*sz) (k:Fin n ((d,AV (.slice (some ⟨b,0,none⟩) rows.length cap) (slice sz rows))::E) (Hp M0 w0 S (rs.set j (As e sz (.slice (some ⟨b,0,none⟩) rows.length cap)))) Q x):Fin n E (Hp M0 w0 S rs) Q x:=
 Fin.conv (fun _ _ hs=>hs.Z8 j d hj hd hp hl hc hm hq) k
end
section
variable {P:Program} {L:Lg P} {n:Fm} {fz:Nat} {E:Env} {M0:Av} {w0:World} {S:Nat→Prop} {rs:List At} {o:Oper} {g:Func} {M1:Av} {w1:World}
theorem Xp {β:Type} {f:β→List Pr} {l:List β} (hf:∀x,(f x).length=1) {i:Int} {x:β} (h:l[i.toNat]? =some x) (hp:f x=[p]):((l.map f).flatten++qs)[0+i.toNat*1]? =some p:=by
 have hl:∀r∈l.map f,r.length=1:=AW hf
 have hi:i.toNat<l.length:=by grind
 have hfl:=C5 hl
 rw [List.length_map] at hfl
 rw [Nat.zero_add,List.getElem?_append_left (by rw [hfl];omega),show i.toNat*1=i.toNat*1+0 by omega,IF hl (by rw [List.getElem?_map,h];rfl) AA,hp];rfl
def E2 (T:TypeId) (ps:List Pr) (v:Value):At:=match v with| .pointer (some a)=>AF true a.block T ps|_=>Bf
theorem Bx {d:Nat} (hg:o.guard=none) (hd:o.dst=some d) (hn:d<n) (ho:o.op= .alloc T) (hz:BZ P T=some zs) (h1':zs.all (·.oneCell')=true):
  DH P M0 w0 S n j (SR.c Bf) ⟨d,E2 T (zs.map is)⟩ o E (Cp.ex fun b=>ptr b 0):=by
 refine ⟨hg,fun M w a rs VM he hI hj=> ?_⟩
 have h1:∀c∈zs,c.oneCell'=true:=fun c hc=>List.all_eq_true.1 h1' c hc
 obtain ⟨z,Ex,JN⟩:=XS hz w
 have hrun:(execOp a.eval o).run P w= .ok (.value (.pointer (some ⟨w.heap.size,0,none⟩))) (w.alloc (.cells zs.toArray T)):=by simp [execOp,ho,Instr.alloc,Ex,newVar,newRow,←JN]
 rw [hrun]
 have hb:Below w.heap.size w (w.alloc (.cells zs.toArray T)):=(Below.refl _ _).alloc (Nat.le_refl _) _
 have h2:=Ext.below (M:=M) hb
 have FE:Ext M w (fun b o=>M b o∨b=w.heap.size) (w.alloc (.cells zs.toArray T)):=by
  refine ⟨h2.size,fun a v hc hm=>⟨fun hx=> ?_,(h2.keep a v hc hm).2⟩,fun b o ho hp hm=>⟨fun hx=> ?_,(h2.obj b o ho hp hm).2⟩⟩
  ·
   rcases hx with hx|hx
   · exact hm hx
   · exact FM
  · grind
 have hs1:(w.alloc (.cells zs.toArray T)).heap.size=w.heap.size+1:=by simp
 have hat:(SR.at_ (a.put o.dst (.pointer (some ⟨w.heap.size,0,none⟩))) ⟨d,E2 T (zs.map is)⟩)=AF true w.heap.size T (zs.map is):=by unfold SR.at_ Slot.val;dsimp only;rw [hd,Bz H6];rfl
 refine ⟨fun b o=>M b o∨b=w.heap.size,⟨_,rfl⟩,FE,?_⟩
 rw [hat]
 refine hI.replace hj FE hb.os hb.tape hb.output (fun k hk _=>hb.block k hk) rfl (fun b o hm _=> .inl hm) (fun b o hx=> ?_) ?_ rfl (fun b hbk=> ?_)
 ·
  rcases hx with hx|hx
  · have:=hI.bd _ _ hx;omega
  · omega
 · refine ⟨fun o=> .inr rfl,zs,heap_alloc_new w _,KV _ _ _,h1⟩
 ·
  have FB:some w.heap.size=some b:=hbk
  injection FB with e1
  subst e1
  exact ⟨by rw [hs1];omega,.inr (Nat.le_refl _)⟩
theorem CZ {s:Tmp} {y:Operand} (hg:o.guard=none) (hd:o.dst=none) (ho:o.op= .store t (.tmp s) y) (hx:E.lookup s=some (Cp.ex fun b=>ptr b 0)) (hy:VL E y (DA qs)) (hz:A9 P t=some m) (hm:qs.length=m) (hl:ps.length=m):DH P M0 w0 S n j ⟨s,E2 T ps⟩ ⟨s,E2 T qs⟩ o E any:=by
 refine ⟨hg,fun M w a rs hsz he hI hj=> ?_⟩
 have hxv:VL E (.tmp s) (Cp.ex fun b=>ptr b 0):=⟨_,hx,Pr.le_refl _⟩
 obtain ⟨b,h1'⟩:=hxv.ev he (show (Operand.tmp s)∈o.op.operands.toList by simp [ho,Op.operands])
 have h1:a.eval (.tmp s)= .pointer (some ⟨b,0,none⟩):=h1'
 have h1t:a.tmps.getD s undef= .pointer (some ⟨b,0,none⟩):=h1
 have hj':rs[j]? =some (AF true b T ps):=by
  rw [hj];show some (E2 T ps (a.tmps.getD s undef))=_;rw [h1t];rfl
 obtain ⟨h2,h3⟩:=hy.ev he (show y∈o.op.operands.toList by simp [ho,Op.operands])
 obtain ⟨⟨_,cs,h4,h5,h6⟩,_⟩:=hI.hold _ (List.mem_of_getElem? hj')
 have h5l:=h5.length
 have h2l:=h2.length
 have hcells:(a.eval y).cells.size=m:=by rw [←hm,←h2l];simp
 have hrun:(storeCells ⟨b,0,none⟩ (a.eval y).cells.toList 0).run P w= .ok () (w.setRow b (cs.take 0++(a.eval y).cells.toList++cs.drop (0+m)).toArray):=by
  have:=run_storeCells_at (P:=P) b 0 T (a.eval y).cells.toList 0 cs.toArray w h4 CL h3
  simpa [hcells] using this
 have ADt:cs.drop (0+m)=[]:=List.drop_eq_nil_of_le AA
 rw [ADt,List.take_zero,List.nil_append,List.append_nil] at hrun
 have Ee:(execOp a.eval o).run P w= .ok .skip (w.setRow b (a.eval y).cells.toList.toArray):=by
  simp only [execOp,ho,h1,Instr.storeAt,Instr.sureAddr,storeVar]
  simp [C7 hz,hcells,hrun]
 rw [Ee]
 obtain ⟨h7,h8⟩:=A7.write (qs:=qs) (cs:=(a.eval y).cells.toList) hI hj' h2 h3
 refine ⟨M,trivial,h8,?_⟩
 have hat:(SR.at_ (a.put o.dst undef) ⟨s,E2 T qs⟩)=AF true b T qs:=by
  rw [hd];show E2 T qs (a.tmps.getD s undef)=_;rw [h1t];rfl
 rw [hat];exact h7
theorem Fin.LR {Q:Exit→Act→World→Prop} {x:Exit} (s j:Nat) {f:Value→At} (g:Nat→At) (hs:E.lookup s=some (AV v (Cp.ex fun b=>ptr b 0))) (hi:rs[j]? =some (f v)) (hf:∀b,f (.pointer (some ⟨b,0,none⟩))=g b) (k:∀b,Fin n ((s,ptr b 0)::E) (Hp M0 w0 S (rs.set j (g b))) Q x):Fin n E (Hp M0 w0 S rs) Q x:=by
 intro a w hst
 obtain ⟨M,h1,h2,he,h4⟩:=hst
 obtain ⟨h5,b,h6⟩:=he s _ hs
 have hv:v= .pointer (some ⟨b,0,none⟩):=by rw [←h5];exact h6
 have hj:rs.set j (g b)=rs:=by
  have hjl:j<rs.length:=by grind
  rw [←hf b,←hv]
  rw [List.getElem?_eq_getElem hjl] at hi
  simp at hi
  rw [←hi,List.set_getElem_self]
 refine k b a w ⟨M,h1,h2,?_,by rw [hj];exact h4⟩
 intro t q hq
 simp only [List.lookup] at hq
 by_cases ht:t=s
 · grind
 · exact OC
theorem V4 {β:Type} {f:β→List Pr} {sz:Nat} (hf:∀x,(f x).length=sz) {z:List Pr} (hz:z.length=sz) {l:List β} (hm:m=l.length-((i:Nat):Int).toNat) (h:i≤l.length):
  ((l.map f).flatten++qs).take (((i:Nat):Int).toNat*sz)++(List.replicate m z).flatten++((l.map f).flatten++qs).drop (((i:Nat):Int).toNat*sz+m*sz)=((l.take i).map f).flatten++(List.replicate (l.length-i) z).flatten++qs:=by
 rw [Int.toNat_natCast] at hm ⊢;subst hm
 have hl2:∀r∈(l.take i).map f,r.length=sz:=AW hf
 have e1:i*sz+(l.length-i)*sz=((l.map f).flatten).length:=by rw [C5 (AW hf),List.length_map,←Nat.add_mul];congr 1;omega
 have e2:(l.map f).flatten=((l.take i).map f).flatten++((l.drop i).map f).flatten:=by rw [←List.flatten_append,←List.map_append,List.take_append_drop]
 have e3:(((l.take i).map f).flatten).length=i*sz:=by rw [C5 hl2,List.length_map,List.length_take];congr 1;omega
 rw [e1,List.drop_left]
 congr 2
 rw [e2,List.append_assoc,←e3,List.take_left]
end
section
variable {P:Program} {L:Lg P} {n:Fm} {fz:Nat} {E:Env} {M0:Av} {w0:World} {S:Nat→Prop} {rs:List At} {o:Oper}
def BG (e:TypeId) (sz:Nat) (rows:List (List Pr)) (v:Value):At where
 blk:=match v with| .slice (some a) _ _=>some a.block|_=>none
 new:=true
 h M w:=(rows=[]∧v= .slice none 0 0)∨(EN e sz rows v).h M w
 st M w M' w' he hk h:=h.imp id fun h=>(EN e sz rows v).st M w M' w' he hk h
theorem Tr.GP {Q:Exit→Act→World→Prop} {c:Code} (e:TypeId) (sz:Nat) (k:Tr L n E (Hp M0 w0 S (BG e sz [] (.slice none 0 0)::rs)) c Q):Tr L n E (Hp M0 w0 S rs) c Q:=
 Tr.conv (fun _ _ ⟨M,h1,h2,h3,h4⟩=>⟨M,h1,h2,h3,A7.Im h4 (r:=BG e sz [] (.slice none 0 0)) rfl (Or.inl ⟨rfl,rfl⟩)⟩) k
theorem fE {w:World} {ty:TypeId} {sz bytes:Nat} {u:Value} (ht:P.underlying t=some (.slice e)) (hz:A9 P e=some sz) (hby:B1 P e=some bytes) (Ev:BZ P e=some zs) (hzl:zs.length=sz) (hone:zs.all (·.oneCell')=true) (hsz:0<sz) (h:A7 M0 w0 S rs M w) (hj:rs[j]? =some (BG e sz rows v)) (hl:∀r∈rows,r.length=sz) (hu:(slice sz rows').h M w u) (hpos:0<rows'.length) (HF:rows.length+rows'.length≤maxLen) (hfit:(rows.length+rows'.length)*bytes≤140737488355328):
  ∃v' w' M',(Builtin.append_ #[t,t] ty #[v,u]).run P w= .ok v' w'∧(lens (rows.length+rows'.length)).h M' w' v'∧Ext M w M' w'∧A7 M0 w0 S (rs.set j (BG e sz (rows++rows') v')) M' w':=by
 have hjl:j<rs.length:=by grind
 rcases (h.hold _ (List.mem_of_getElem? hj)).1 with ⟨rfl,rfl⟩|oW
 ·
  have h1:=h.Ce (r':=Bf) hj rfl rfl trivial
  have hj1:(rs.set j Bf)[j]? =some Bf:=List.getElem?_set_self hjl
  obtain ⟨v',w',M',hrun,h2,h3,h4⟩:=vS (ty:=ty) ht hz hby Ev hzl hone hsz h1 hj1 hu hpos QE QD
  rw [List.set_set] at h4
  have h5:=h4.Ce (r':=BG e sz ([]++rows') v') (List.getElem?_set_self hjl) rfl rfl (.inr (h4.hold _ (List.mem_of_getElem? (List.getElem?_set_self hjl))).1)
  rw [List.set_set] at h5
  exact ⟨v',w',M',hrun,by simpa using h2,h3,h5⟩
 ·
  obtain ⟨b,cap,spare,rfl,hnc,hcm,hsp,jF⟩:=oW
  have hC:=h.Ce (r':=AF true b e (rows.flatten++spare.map is)) hj rfl rfl jF
  have hjC:(rs.set j (AF true b e (rows.flatten++spare.map is)))[j]? =some (AF true b e (rows.flatten++spare.map is)):=List.getElem?_set_self hjl
  obtain ⟨⟨hMb,cs,yp,hcs,ADu⟩,hbb⟩:=hC.hold _ (List.mem_of_getElem? hjC)
  have hfl:=C5 hl
  have XX:=hcs.length
  rw [List.length_append,hfl,List.length_map,hsp,←Nat.add_mul,show rows.length+(cap-rows.length)=cap by omega] at XX
  unfold A9 at hz
  unfold B1 at hby
  unfold BZ at Ev
  cases hi:P.info? e with
  |none=>rw [hi] at hz;cases hz
  |some i=>
   rw [hi] at hz hby Ev
   simp only [Option.map_some,Option.some.injEq,Option.map_eq_some_iff] at hz hby Ev
   obtain ⟨z,eV,Ev⟩:=Ev
   have l6:z.cells.size=sz:=by rw [←hzl,←Ev];simp
   obtain ⟨A',c',rfl,hmc,Z0,hA',HW⟩:=hu
   have T6:(slice sz rows').h M w (.slice A' rows'.length c'):=⟨A',c',rfl,hmc,Z0,hA',HW⟩
   obtain ⟨UB,rfl⟩:∃UB,A'=some UB:=by
    obtain ⟨_,b,hb,_⟩:=HW 0 _ (List.getElem?_eq_getElem hpos)
    exact ⟨b,hb⟩
   obtain ⟨news,UI,hcell⟩:=GN hsz T6
   have Z9:=UI.1
   have hnews:=UI.hl hsz
   have hT:HL M w rows.flatten (cs.take (rows.length*sz)):=by
    have:=hcs.take (rows.length*sz)
    rwa [←hfl,List.take_left,hfl] at this
   have hne:(.slice (some ⟨b,0,none⟩) (rows++rows').length cap:Value)= .slice (some ⟨b,0,none⟩) (rows.length+rows'.length) cap:=by rw [List.length_append]
   by_cases hroom:rows.length+rows'.length≤cap
   ·
    have hle:(rows.length+rows'.length)*sz≤cap*sz:=Nat.mul_le_mul_right sz hroom
    rw [Nat.add_mul] at hle
    have hrun:=run_append_room (P:=P) (w:=w) t ty e i ht hi b rows.length cap cs.toArray yp UB rows'.length c' news (by rw [hz];exact Z9) (fun k u hk=>(hcell k u hk).1) UI.2.1 hroom (by rw [hz,Z9];simp;omega)
    rw [hz,Z9] at hrun
    have hD:HL M w ((spare.drop (rows'.length*sz)).map is) (cs.drop (rows.length*sz+rows'.length*sz)):=by
     have:=hcs.drop (rows.length*sz+rows'.length*sz)
     have e1:(rows.flatten++spare.map is).drop (rows.length*sz+rows'.length*sz)=(spare.drop (rows'.length*sz)).map is:=by rw [←hfl,←List.drop_drop,List.drop_left,List.map_drop]
     rwa [e1] at this
    obtain ⟨hW,hX⟩:=A7.write (qs:=rows.flatten++rows'.flatten++(spare.drop (rows'.length*sz)).map is) (cs:=cs.take (rows.length*sz)++news++cs.drop (rows.length*sz+rows'.length*sz)) hC hjC ((hT.app hnews).app hD) (fun c hc=>by
     simp only [List.mem_append] at hc
     rcases hc with (hc|hc)|hc
     · grind
     · exact UI.2.1 c hc
     · exact ADu c (List.mem_of_mem_drop hc))
    rw [List.set_set] at hW
    refine ⟨_,_,M,hrun,⟨_,_,rfl⟩,hX,?_⟩
    have hW2 := hW.Ce (r' := BG e sz (rows ++ rows') (.slice (some ⟨b, 0, none⟩) (rows.length + rows'.length) cap)) (List.getElem?_set_self hjl) rfl rfl (.inr ⟨b, cap, spare.drop (rows'.length * sz), hne.symm, by rw [List.length_append]; exact hroom, hcm, by
     rw [List.length_drop,hsp,List.length_append,←Nat.sub_mul];congr 1;omega,by
     rw [List.flatten_append];exact (hW.hold _ (List.mem_of_getElem? (List.getElem?_set_self hjl))).1⟩)
    rw [List.set_set] at hW2
    exact hW2
   ·
    have hg:cap<rows.length+rows'.length:=by omega
    have holds:∀k u,(cs.take (rows.length*sz))[k]? =some u→w.cell? ((⟨b,0,none⟩:Addr).add k)=some u:=by
     intro k u hk
     have hk2:cs[k]? =some u:=by grind
     rw [F1]
     simp [World.cell?,yp,hk2]
    have hto:(cs.take (rows.length*sz)).length=rows.length*sz:=by rw [List.length_take,XX];exact Nat.min_eq_left (Nat.mul_le_mul_right sz hnc)
    have hrun:=run_append_grow (P:=P) (w:=w) t ty e i z ht hi eV ⟨b,0,none⟩ rows.length cap (cs.take (rows.length*sz)) (by rw [hz];exact hto) holds UB rows'.length c' news (by rw [hz];exact Z9) (fun k u hk=>(hcell k u hk).1) hg VX (by rw [hby];exact growslice_fits hg hfit)
    generalize hcap:grownCap w (rows.length+rows'.length) cap e=cap' at hrun
    have hge:rows.length+rows'.length≤cap':=by rw [←hcap];exact grownCap_ge _ _ _ _
    have hle:cap'≤maxLen:=by rw [←hcap];exact grownCap_le_maxLen _ _ _ _ HF
    generalize TX:Builtin.zeroCells z.cells (cap'-(rows.length+rows'.length))=zc at hrun
    have hzs:zc.size=(cap'-(rows.length+rows'.length))*sz:=by rw [←TX,size_zeroCells,l6]
    have hzo:∀c∈zc.toList,c.oneCell'=true:=by rw [←TX];exact Ge Ev hone
    generalize AAU:((cs.take (rows.length*sz)).toArray++news.toArray++zc)=arr at hrun
    have Ip:arr.toList=cs.take (rows.length*sz)++news++zc.toList:=by rw [←AAU];simp
    have hb:Below w.heap.size w (w.drew.alloc (.cells arr e)):=((Below.refl _ _).drew).alloc (Nat.le_refl _) _
    have h2:=Ext.below (M:=M) hb
    have FE:Ext M w (fun b o=>M b o∨b=w.heap.size) (w.drew.alloc (.cells arr e)):=by
     refine ⟨h2.size,fun a v hc hm=>⟨fun hx=> ?_,(h2.keep a v hc hm).2⟩,fun b o ho hp hm=>⟨fun hx=> ?_,(h2.obj b o ho hp hm).2⟩⟩
     ·
      rcases hx with hx|hx
      · exact hm hx
      · exact FM
     · grind
    have hs1:(w.drew.alloc (.cells arr e)).heap.size=w.heap.size+1:=by simp
    refine ⟨_,_,fun b o=>M b o∨b=w.heap.size,hrun,⟨_,_,rfl⟩,FE,?_⟩
    refine h.replace hj FE hb.os hb.tape hb.output (fun k hk _=>hb.block k hk) rfl (fun b o hm _=> .inl hm) (fun b o hx=> ?_) ?_ rfl (fun b hbk=> ?_)
    ·
     rcases hx with hx|hx
     · exact NC
     · omega
    ·
     refine .inr ⟨w.heap.size,cap',zc.toList,by rw [List.length_append],by rw [List.length_append];exact hge,hle,by rw [List.length_append];simpa using hzs,fun o=> .inr rfl,arr.toList,?_,?_,?_⟩
     ·
      have hh:(w.drew.alloc (.cells arr e)).heap[w.heap.size]? =some (.cells arr e (0,0)):=heap_alloc_new w.drew _
      rw [hh]
     · rw [Ip,List.flatten_append];exact ((hT.st FE).app ((UI.st FE).hl hsz)).app (KV _ _ _)
     ·
      intro c hc
      rw [Ip] at hc
      simp only [List.mem_append] at hc
      rcases hc with (hc|hc)|hc
      · grind
      · exact UI.2.1 c hc
      · exact hzo c hc
    ·
     have FB:some w.heap.size=some b:=hbk
     injection FB with e1
     subst e1
     exact ⟨by rw [hs1];omega,.inr (Nat.le_refl _)⟩
theorem Fg {y:Operand} {sz bytes d:Nat} (hg:o.guard=none) (hd:o.dst=some d) (hn:d<n) (ho:o.op= .call { callee:= .builtin .append,args:= #[x,y],argTypes:= #[t,t] }) (ht:P.underlying t=some (.slice e)) (hz:A9 P e=some sz) (hby:B1 P e=some bytes) (Ev:BZ P e=some zs) (hzl:zs.length=sz) (hone:zs.all (·.oneCell')=true) (hsz:0<sz) (hx:VL E x (AV v p)) (hy:VL E y (slice sz rows')) (hl:∀r∈rows,r.length=sz) (hpos:0<rows'.length) (HF:rows.length+rows'.length≤maxLen) (hfit:(rows.length+rows'.length)*bytes≤140737488355328):DH P M0 w0 S n j (SR.c (BG e sz rows v)) ⟨d,BG e sz (rows++rows')⟩ o E (lens (rows.length+rows'.length)):=by
 refine ⟨hg,fun M w a rs VM he hI hj=> ?_⟩
 have h1:a.eval x=v:=(hx.ev he DG).1
 have h2:=hy.ev he DG
 obtain ⟨v',w',M',hrun,h3,h4,h5⟩:=fE (ty:=o.type) ht hz hby Ev hzl hone hsz hI hj hl h2 hpos HF hfit
 have Ee:(execOp a.eval o).run P w= .ok (.value v') w':=by simp [execOp,ho,resolve,invoke,builtin,h1,hrun]
 rw [Ee]
 refine ⟨M',h3,h4,?_⟩
 have:(SR.at_ (a.put o.dst v') ⟨d,BG e sz (rows++rows')⟩)=BG e sz (rows++rows') v':=by unfold SR.at_ Slot.val;dsimp only;rw [hd,Bz H6]
 rw [this];exact h5
theorem A7.Z_ {w:World} {sz:Nat} (h:A7 M0 w0 S rs M w) (hj:rs[j]? =some (BG e sz rows v)) (hl:∀r∈rows,r.length=sz):
  ∃M',Ext M w M' w∧A7 M0 w0 S (rs.set j (As e sz v)) M' w∧(slice sz rows).h M' w v:=by
 have hjl:j<rs.length:=by grind
 rcases (h.hold _ (List.mem_of_getElem? hj)).1 with ⟨rfl,rfl⟩|oW
 · exact ⟨M,Ext.refl _ _,h.Ce hj rfl rfl VZ,AP sz M w _ rfl⟩
 ·
  obtain ⟨b,cap,spare,rfl,hnc,hcm,hsp,jF⟩:=oW
  have hC:=h.Ce (r':=AF true b e (rows.flatten++spare.map is)) hj rfl rfl jF
  obtain ⟨M',h1,h2,h3⟩:=A7.frz hC (List.getElem?_set_self hjl) hl hnc hcm (by rw [List.length_map];exact hsp)
  rw [List.set_set] at h2
  exact ⟨M',h1,h2,h3⟩
end
section
variable {P:Program} {L:Lg P} {n:Fm} {fz:Nat} {E:Env} {M0:Av} {w0:World} {S:Nat→Prop} {rs:List At} {o:Oper} {ops:Array Oper} {r:List Oper}
def ADv (P:Program) (f:FuncId) (args:List Pr) (res:Pr) (r:At) (r':At) (r2:At):Prop:=Entry P f∧∀M0 w0 S rs M w vs,A7 M0 w0 S (r::r2::rs) M w→HL M w args vs→
 Calls P f vs.toArray w fun e w'=>∃v M',e= .returned v∧res.h M' w' v∧Ext M w M' w'∧A7 M0 w0 S (r'::r2::rs) M' w'
theorem ADv.of {g : Func} {c : Code} {res : Pr} {R R' R2 : At} (hf : P.funcs[f]? = some g) (hb : g.body = some c) (hname : (g.name == "runtime.NumGoroutine") = false) (hlen : ps.length ≤ g.ntmps) (h : ∀ M0 w0 S rs M1 w1, Tr (ZK P) g.ntmps (MJ 0 ps) (Hp M0 w0 S (R :: Ai M1 w1 :: R2 :: rs)) c (bodyPost P g (NK M0 w0 S (R2 :: rs) M1 w1 res (fun _ => R')))) : ADv P f ps res R R' R2 := by
 refine ⟨⟨g,hf,hname,by rw [hb];rfl⟩,fun M0 w0 S rs M w vs hI hv=> ?_⟩
 refine calls_of_wp hf hb (h M0 w0 S rs M w _ _ ⟨M,?_,rfl,GL hv,?_⟩)
 ·
  have:=hv.length
  simp [this];omega
 · exact Zr
end
abbrev G1 (k:IntKind):Pr:=Cp.ex fun i:Int=>is (.int k i)
theorem Dc (k:IntKind) (i:Int):Pr.le (is (.int k i)) (G1 k):=fun _ _ _ h=>⟨i,h⟩
section
variable {P:Program} {L:Lg P} {I:C1} {o:Oper} {E:Env}
theorem vZ {op:BinOp} {u:TypeId} {y:Operand} {k:IntKind} (hop:(op== .xor||op== .or)=true) (ho:o.op= .binOp op t x y u) (hx:VL E x (G1 k)) (hy:VL E y (G1 k)):Ac P I o E (G1 k):=
 Ac.same fun M w a he _=>by
  obtain ⟨m,h1⟩:=hx.ev he Au
  obtain ⟨n,h2⟩:=hy.ev he Au
  have h1:a.eval x= .int k m:=h1
  have h2:a.eval y= .int k n:=h2
  cases op<;>simp at hop<;>exact ⟨_,by simp [execOp,ho,h1,h2,eqGuard,binOp,Op.intBits];rfl,_,rfl⟩
end
theorem UJ {β:Type} {f:β→List Pr} {l:List β} {sz:Nat} (hf:∀x,(f x).length=sz) {i:Int} (h:i.toNat<l.length):((((l.map f).flatten++qs).drop (0+i.toNat*sz)).take sz)=f (l[i.toNat]'h):=by
 rw [Nat.zero_add];exact oK hf (List.getElem?_eq_getElem h)
theorem GQ {β:Type} {f:β→List Pr} {sz:Nat} (hf:∀x,(f x).length=sz) {l:List β} {i:Int} {x:β} (h:i.toNat<l.length):((l.map f).flatten++qs).take (0+i.toNat*sz)++f x++((l.map f).flatten++qs).drop (0+i.toNat*sz+sz)=((l.set i.toNat x).map f).flatten++qs:=by
 rw [Nat.zero_add];exact OX hf h
theorem Rw {β:Type} {l:List β} {i j:Int} (hi:i.toNat<l.length) (hj:j.toNat<l.length):((l.set i.toNat (l[j.toNat]'hj)).set j.toNat (l[i.toNat]'hi)).Perm l:=List.set_set_perm hi hj
section
variable {P:Program} {L:Lg P} {n:Fm} {fz:Nat} {E:Env} {M0:Av} {w0:World} {S:Nat→Prop} {rs:List At} {o:Oper} {β:Type} {b:Nat} {e:TypeId} {f:β→List Pr} {qs:List Pr} {Φ:List β→Prop}
def Er (b:Nat) (e:TypeId) (f:β→List Pr) (Φ:List β→Prop) (qs:List Pr):At where
 blk:=some b
 new:=true
 h M w:=∃st:List β,Φ st∧(AF true b e ((st.map f).flatten++qs)).h M w
 st M w M' w' he hk h:=let ⟨st,h1,h2⟩:=h;⟨st,h1,(AF true b e ((st.map f).flatten++qs)).st M w M' w' he hk h2⟩
theorem St.Ki (j:Nat) (hj:rs[j]? =some (Er b e f Φ qs)) {w:World} (h:St n E (Hp M0 w0 S rs) a w):
  ∃st:List β,Φ st∧St n E (Hp M0 w0 S (rs.set j (AF true b e ((st.map f).flatten++qs)))) a w:=by
 obtain ⟨M,h1,h2,h3,h4⟩:=h
 have h4:A7 M0 w0 S rs M w:=h4
 obtain ⟨st,hp,h8⟩:=(h4.hold _ (List.mem_of_getElem? hj)).1
 exact ⟨st,hp,M,h1,h2,h3,h4.Ce hj rfl rfl h8⟩
theorem Tr.Ki {Q:Exit→Act→World→Prop} {c:Code} (j:Nat) (hj:rs[j]? =some (Er b e f Φ qs))
  (k:∀st:List β,Φ st→Tr L n E (Hp M0 w0 S (rs.set j (AF true b e ((st.map f).flatten++qs)))) c Q):Tr L n E (Hp M0 w0 S rs) c Q:=
 fun a w hs=>let ⟨st,h1,h2⟩:=hs.Ki j hj;k st h1 a w h2
theorem Fin.Ki {Q:Exit→Act→World→Prop} {x:Exit} (j:Nat) (hj:rs[j]? =some (Er b e f Φ qs))
  (k:∀st:List β,Φ st→Fin n E (Hp M0 w0 S (rs.set j (AF true b e ((st.map f).flatten++qs)))) Q x):Fin n E (Hp M0 w0 S rs) Q x:=
 fun a w hs=>let ⟨st,h1,h2⟩:=hs.Ki j hj;k st h1 a w h2
theorem TO.Ki {Q:Exit→Act→World→Prop} {r:List Oper} (j:Nat) (hj:rs[j]? =some (Er b e f Φ qs)) (k:∀st:List β,Φ st→TO P n ops r E (Hp M0 w0 S (rs.set j (AF true b e ((st.map f).flatten++qs)))) Q):TO P n ops r E (Hp M0 w0 S rs) Q:=
 fun m hl a w hs=>let ⟨st,h1,h2⟩:=hs.Ki j hj;k st h1 m hl a w h2
theorem St.G2 {st:List β} (j:Nat) (hj:rs[j]? =some (AF true b e ((st.map f).flatten++qs))) (hp:Φ st) {w:World} (h:St n E (Hp M0 w0 S rs) a w):St n E (Hp M0 w0 S (rs.set j (Er b e f Φ qs))) a w:=by
 obtain ⟨M,h1,h2,h3,h4⟩:=h
 have h4:A7 M0 w0 S rs M w:=h4
 exact ⟨M,h1,h2,h3,h4.Ce hj rfl rfl ⟨st,hp,(h4.hold _ (List.mem_of_getElem? hj)).1⟩⟩
theorem Tr.G2 {Q:Exit→Act→World→Prop} {c:Code} {st:List β} (Φ:List β→Prop) (j:Nat) (hj:rs[j]? =some (AF true b e ((st.map f).flatten++qs))) (hp:Φ st)
  (k:Tr L n E (Hp M0 w0 S (rs.set j (Er b e f Φ qs))) c Q):Tr L n E (Hp M0 w0 S rs) c Q:=Tr.conv (fun _ _ hs=>hs.G2 j hj hp) k
theorem Fin.G2 {Q:Exit→Act→World→Prop} {x:Exit} {st:List β} (Φ:List β→Prop) (j:Nat) (hj:rs[j]? =some (AF true b e ((st.map f).flatten++qs))) (hp:Φ st)
  (k:Fin n E (Hp M0 w0 S (rs.set j (Er b e f Φ qs))) Q x):Fin n E (Hp M0 w0 S rs) Q x:=Fin.conv (fun _ _ hs=>hs.G2 j hj hp) k
instance (priority:=300) ADw (b:Bool) (p:Prop) [h:EW b false p]:EW (!b) true p:=⟨fun e=>h.E9 (by simpa using e)⟩
instance (priority:=300) ADx (b:Bool) (p:Prop) [h:EW b true p]:EW (!b) false p:=⟨fun e=>h.E9 (by simpa using e)⟩
end
end Cp
namespace Cp
open Go.Sort
section
variable {β:Type} [Inhabited β] {c:β×β→Int} {st:List β} {a b i j:Int}
def ltc (c:β×β→Int) (x y:β):Bool:=decide (c (x,y)<0)
theorem gx (h:i.toNat<st.length):st.toArray[i.toNat]! =st[i.toNat]:=by simp [h]
theorem sw (hi:i.toNat<st.length) (hj:j.toNat<st.length):((st.set i.toNat (st[j.toNat]'hj)).set j.toNat (st[i.toNat]'hi)).toArray=swp st.toArray i.toNat j.toNat:=by
 unfold swp
 rw [gx hi,gx hj]
 simp [Array.setIfInBounds_def,hi,hj]
omit [Inhabited β] in
theorem ADy {x y:β} (h:¬c (x,y)<0):ltc c x y=false:=decide_eq_false h
variable {hi F r:Int}
variable {lt:β→β→Bool} {a0 b0 m n:Nat} {l s s':Array β}
structure PS (lt:β→β→Bool) (a0 b0 a b:Nat) (l s:Array β):Prop where
 ha:a0≤a
 hab:a≤b
 hb:b≤b0
 hp:PermIn a0 b0 l s
 below:Below lt a b s
 out:∀i j,a0≤i→i<j→j<b0→(i<a∨b≤j)→lt s[j]! s[i]! =false
theorem PS.perm (h:PS lt a0 b0 m n l s) (hs:b0≤l.size) (hq:PermIn m n s s'):PS lt a0 b0 m n l s':=by
 have hsz:s.size=l.size:=h.hp.1
 have hns:n≤s.size:=by have:=h.hb;omega
 refine ⟨h.ha,h.hab,h.hb,permIn_trans _ _ _ _ _ h.hp (permIn_mono _ _ _ _ _ _ h.ha h.hb AA hq),Below.permA permIn_all hns h.below hq,fun i j h1 h2 h3 h4=> ?_⟩
 have hm:=h.hab
 by_cases hi:m≤i∧i<n
 ·
  have hj:n≤j:=by omega
  rw [hq.2.1 j (.inr hj)]
  exact permIn_all s s' m n (fun x=>lt s[j]! x=false) hns hq (fun k hk1 hk2=>h.out k j (by have:=h.ha;omega) AA h3 (.inr hj)) i hi.1 hi.2
 ·
  rw [hq.2.1 i AA]
  by_cases hj:m≤j∧j<n
  · exact permIn_all s s' m n (fun x=>lt x s[i]! =false) hns hq (fun k hk1 hk2=>h.out i k h1 AA (by have:=h.hb;omega) (.inl AA)) j hj.1 hj.2
  · rw [hq.2.1 j AA];exact h.out i j h1 h2 h3 h4
theorem PS.done (h:PS lt a0 b0 m n l s) (hs:SortedIn lt m n s):PermIn a0 b0 l s∧SortedIn lt a0 b0 s:=by
 refine ⟨h.hp,fun i j h1 h2 h3=> ?_⟩
 by_cases hh:i<m∨n≤j
 · exact h.out i j h1 h2 h3 hh
 · exact hs i j AA h2 AA
theorem PS.eq (hw:SWO lt) (h:PS lt a0 b0 m n l s) (hs:b0≤l.size) {pv:β} {k:Nat} (hm:0<m) (ia:lt s[m-1]! pv=false) (hk:m<k) (hkn:k≤n) (hq:PermIn m n s s') (h1:∀i,m≤i→i<k→lt pv s'[i]! =false) (h2:∀i,k≤i→i<n→lt pv s'[i]! =true):
  PS lt a0 b0 k n l s':=by
 have h':=h.perm hs hq
 have hle:∀j,m≤j→j<n→lt s'[j]! pv=false:=by
  intro j hj1 hj2
  by_cases hjk:k≤j
  · exact hw.asym (h2 j hjk hj2)
  ·
   have hb:=h'.below
   rcases hb with hb|hb
   · omega
   ·
    have hb:=hb j hj1 hj2
    rw [hq.2.1 (m-1) (.inl AA)] at hb
    exact hw.ntrans _ _ _ hb ia
 have key:∀i j,m≤i→i<k→m≤j→j<n→lt s'[j]! s'[i]! =false:=fun i j ha hb hc hd=>hw.ntrans _ _ _ (hle j hc hd) (h1 i ha hb)
 refine ⟨by have:=h.ha;omega,hkn,h.hb,h'.hp,.inr fun i hi1 hi2=>key (k-1) i AA AA AA hi2,fun i j g1 g2 g3 g4=> ?_⟩
 by_cases hh:i<m∨n≤j
 · exact h'.out i j g1 g2 g3 hh
 · exact key i j AA AA AA AA
structure oX (lt:β→β→Bool) (m n k:Nat) (s:Array β):Prop where
 h1:m≤k
 h2:k<n
 lo:∀i,m≤i→i<k→lt s[i]! s[k]! =true
 up:∀i,k<i→i<n→lt s[i]! s[k]! =false
theorem PS.left (hw:SWO lt) {k:Nat} (h:PS lt a0 b0 m n l s) (hs:b0≤l.size) (hp:oX lt m n k s) (hq:PermIn m k s s') (hso:SortedIn lt m k s'):PS lt a0 b0 (k+1) n l s':=by
 obtain ⟨h1,h2,lo,up⟩:=hp
 have hsz:s.size=l.size:=h.hp.1
 have hks:k≤s.size:=by have:=h.hb;omega
 have ig:PermIn m n s s':=permIn_mono _ _ _ _ _ _ (Nat.le_refl _) AA (by have:=h.hb;omega) hq
 have h':=h.perm hs ig
 have ek:s'[k]! =s[k]! :=hq.2.1 k (.inr (Nat.le_refl _))
 have lo':∀i,m≤i→i<k→lt s'[i]! s[k]! =true:=fun i g1 g2=>permIn_all s s' m k (fun x=>lt x s[k]! =true) hks hq lo i g1 g2
 have up':∀i,k<i→i<n→lt s'[i]! s[k]! =false:=fun i g1 g2=>by rw [hq.2.1 i (.inr AA)];exact up i g1 g2
 refine ⟨by have:=h.ha;omega,by omega,h.hb,h'.hp,.inr fun i g1 g2=> ?_,fun i j g1 g2 g3 g4=> ?_⟩
 · rw [show k+1-1=k by omega,ek];exact up' i AA g2
 ·
  by_cases hh:i<m∨n≤j
  · exact h'.out i j g1 g2 g3 hh
  ·
   rcases Nat.lt_trichotomy i k with hik|hik|hik
   ·
    rcases Nat.lt_trichotomy j k with hjk|hjk|hjk
    · exact hso i j AA g2 hjk
    · subst hjk;rw [ek];exact hw.asym (lo' i AA hik)
    · exact dw
   · subst hik;rw [ek];exact up' j g2 AA
   · omega
theorem PS.right (hw:SWO lt) {k:Nat} (h:PS lt a0 b0 m n l s) (hs:b0≤l.size) (hp:oX lt m n k s) (hq:PermIn (k+1) n s s') (hso:SortedIn lt (k+1) n s'):PS lt a0 b0 m k l s':=by
 obtain ⟨h1,h2,lo,up⟩:=hp
 have hsz:s.size=l.size:=h.hp.1
 have hns:n≤s.size:=by have:=h.hb;omega
 have ig:PermIn m n s s':=permIn_mono _ _ _ _ _ _ AA (Nat.le_refl _) hns hq
 have h':=h.perm hs ig
 have ek:s'[k]! =s[k]! :=hq.2.1 k (.inl AA)
 have lo':∀i,m≤i→i<k→lt s'[i]! s[k]! =true:=fun i g1 g2=>by rw [hq.2.1 i (.inl AA)];exact lo i g1 g2
 have up':∀i,k<i→i<n→lt s'[i]! s[k]! =false:=fun i g1 g2=>permIn_all s s' (k+1) n (fun x=>lt x s[k]! =false) hns hq (fun i q1 q2=>up i AA q2) i AA g2
 refine ⟨h.ha,h1,by have:=h.hb;omega,h'.hp,?_,fun i j g1 g2 g3 g4=> ?_⟩
 ·
  rcases h'.below with hb|hb
  · exact .inl hb
  · exact .inr fun i q1 q2=>hb i q1 AA
 ·
  by_cases hh:i<m∨n≤j
  · exact h'.out i j g1 g2 g3 hh
  ·
   rcases Nat.lt_trichotomy i k with hik|hik|hik
   ·
    rcases Nat.lt_trichotomy j k with hjk|hjk|hjk
    · omega
    · subst hjk;rw [ek];exact hw.asym (lo' i AA hik)
    · exact dw
   · subst hik;rw [ek];exact up' j g2 AA
   · exact hso i j AA g2 AA
end
section
variable {β:Type} [Inhabited β] {c:β×β→Int} {st:List β}
def Adj (c:β×β→Int) (a b:Int) (l:List β):Prop:=∀k,a.toNat<k→k<b.toNat→ltc c l.toArray[k]! l.toArray[k-1]! =false
theorem Adj.go {a i k:Int} (h:Adj c a i st) (h0:0≤a) (ha:a<i) (hk:k=i-1) (hi:i.toNat<st.length) (hk':k.toNat<st.length) (hc:0≤c (st[i.toNat]'hi,st[k.toNat]'hk')):Adj c a (i+1) st:=fun m h1 h2=>by
 rcases Nat.lt_or_ge m i.toNat with hm|hm
 · exact h m h1 hm
 ·
  have e:m=i.toNat:=by omega
  subst e
  rw [show i.toNat-1=k.toNat by omega,gx hi,gx hk'];exact ADy AA
end
section
variable {β:Type} [Inhabited β]
def J5 (a b:Int) (l st:List β):Prop:=PermIn a.toNat b.toNat l.toArray st.toArray
def yq (c:β×β→Int) (a b:Int) (l st:List β):Prop:=PermIn a.toNat b.toNat l.toArray st.toArray∧SortedIn (ltc c) a.toNat b.toNat st.toArray
theorem J5.len {a b:Int} {l st:List β} (h:J5 a b l st):st.length=l.length:=by have:=h.1;simpa using this
theorem yq.len {c:β×β→Int} {a b:Int} {l st:List β} (h:yq c a b l st):st.length=l.length:=by have:=h.1.1;simpa using this
def yt (c:β×β→Int) (hi first lo:Int) (l st:List β):Prop:=st.length=l.length∧st.toArray=siftDown (ltc c) hi.toNat first.toNat lo.toNat l.toArray
theorem yt.len {c:β×β→Int} {hi first lo:Int} {l st:List β} (h:yt c hi first lo l st):st.length=l.length:=h.1
abbrev PE (c:β×β→Int) (a b pv:Int) (l:List β):Nat×Array β:=partitionEqual (ltc c) l.toArray a.toNat b.toNat pv.toNat
abbrev PA (c:β×β→Int) (a b pv:Int) (l:List β):Nat×Bool×Array β:=partition (ltc c) l.toArray a.toNat b.toNat pv.toNat
def yu (c:β×β→Int) (a b pv:Int) (l st:List β):Prop:=st.length=l.length∧st.toArray=(PE c a b pv l).2
def yw (c:β×β→Int) (a b pv:Int) (l st:List β):Prop:=st.length=l.length∧st.toArray=(PA c a b pv l).2.2
theorem yu.len {c:β×β→Int} {a b pv:Int} {l st:List β} (h:yu c a b pv l st):st.length=l.length:=h.1
theorem yw.len {c:β×β→Int} {a b pv:Int} {l st:List β} (h:yw c a b pv l st):st.length=l.length:=h.1
theorem J5.refl (a b:Int) (l:List β):J5 a b l l:=permIn_refl _ _ _
theorem J5.swap {a b i j:Int} {l st:List β} (h:J5 a b l st) (hi:i.toNat<st.length) (hj:j.toNat<st.length) (h1:a.toNat≤i.toNat) (h2:i.toNat<b.toNat) (h3:a.toNat≤j.toNat) (h4:j.toNat<b.toNat) (hb:b.toNat≤l.length):
  J5 a b l ((st.set i.toNat (st[j.toNat]'hj)).set j.toNat (st[i.toNat]'hi)):=by
 unfold J5
 rw [sw hi hj]
 exact permIn_trans _ _ _ _ _ h (swp_permIn _ _ _ _ _ h1 h2 h3 h4 (by have:=h.len;simp;omega))
theorem J5.trans {a b:Int} {l m st:List β} (h:J5 a b l m) (k:J5 a b m st):J5 a b l st:=permIn_trans _ _ _ _ _ h k
end
section
open Go
variable {P:Program} {L:Lg P} {n:Fm} {fz:Nat} {E:Env} {M0:Av} {w0:World} {S:Nat→Prop} {rs:List At} {new:Bool} {b:Nat} {T:TypeId} {ps:List Pr}
end
end Cp
namespace Cp
open Go Go.RowKit Go.Great
variable {a:Act} {ops:Array Oper} {M:Av} {f:FuncId} {rows rows':List (List Pr)} {ps:List Pr} {rs':List At} {b k m:Nat} {x:Operand} {p:Pr} {R:At} {T e t:TypeId} {v:Value}
section
variable {P:Program} {L:Lg P} {n:Fm} {fz:Nat} {E:Env} {I:C1} {Q:Exit→Act→World→Prop}
theorem Tr.vc {α0 α1:Type} (K:Env) (hK:Co E K) (F:α0→α1→Env) (Ii:α0→α1→C1) (C:α0→α1→Prop) {x y:Code} (h:Tr L n E I x (Exit.then (fun a w=>∃x0 x1,C x0 x1∧St n (F x0 x1++K) (Ii x0 x1) a w) Q))
  (k:∀x0 x1,C x0 x1→Tr L n (F x0 x1++K) (Ii x0 x1) y Q):Tr L n E I (.seq x y) Q:=
 Tr.cut (fun y:α0×α1=>F y.1 y.2++K) (fun y=>Ii y.1 y.2) (fun y=>C y.1 y.2) (Tr.post h fun e a w h=>by cases e<;>first|exact h|(obtain ⟨x0,x1,h1,h2⟩:=h;exact ⟨(x0,x1),h1,h2⟩)) fun y hy=>k y.1 y.2 hy
theorem Tr.QO {α0 α1:Type} (K:Env) (hK:Co E K) (F:α0→α1→Value→Env) (Ii:α0→α1→Value→C1) (C:α0→α1→Prop) {x y:Code} (h:Tr L n E I x (Exit.then (fun a w=>∃x0 x1 v0,C x0 x1∧St n (F x0 x1 v0++K) (Ii x0 x1 v0) a w) Q))
  (k:∀x0 x1 v0,C x0 x1→Tr L n (F x0 x1 v0++K) (Ii x0 x1 v0) y Q):Tr L n E I (.seq x y) Q:=
 Tr.cut (fun y:α0×α1×Value=>F y.1 y.2.1 y.2.2++K) (fun y=>Ii y.1 y.2.1 y.2.2) (fun y=>C y.1 y.2.1) (Tr.post h fun e a w h=>by cases e<;>first|exact h|(obtain ⟨x0,x1,v0,h1,h2⟩:=h;exact ⟨(x0,x1,v0),h1,h2⟩)) fun y hy=>k y.1 y.2.1 y.2.2 hy
theorem Tr.fF {α0 α1 α2:Type} (K:Env) (hK:Co E K) (F:α0→α1→α2→Env) (Ii:α0→α1→α2→C1) (C:α0→α1→α2→Prop) {x y:Code} (h:Tr L n E I x (Exit.then (fun a w=>∃x0 x1 x2,C x0 x1 x2∧St n (F x0 x1 x2++K) (Ii x0 x1 x2) a w) Q))
  (k:∀x0 x1 x2,C x0 x1 x2→Tr L n (F x0 x1 x2++K) (Ii x0 x1 x2) y Q):Tr L n E I (.seq x y) Q:=
 Tr.cut (fun y:α0×α1×α2=>F y.1 y.2.1 y.2.2++K) (fun y=>Ii y.1 y.2.1 y.2.2) (fun y=>C y.1 y.2.1 y.2.2) (Tr.post h fun e a w h=>by cases e<;>first|exact h|(obtain ⟨x0,x1,x2,h1,h2⟩:=h;exact ⟨(x0,x1,x2),h1,h2⟩)) fun y hy=>k y.1 y.2.1 y.2.2 hy
end
section
variable {P:Program} {L:Lg P} {n:Fm} {fz:Nat} {E:Env} {M0:Av} {w0:World} {S:Nat→Prop} {rs:List At} {β:Type} {e:TypeId} {sz:Nat} {f:β→List Pr} {Φ:List β→Prop} {v:Value}
def Ry (e:TypeId) (sz:Nat) (f:β→List Pr) (Φ:List β→Prop) (v:Value):At where
 blk:=match v with| .slice (some a) _ _=>some a.block|_=>none
 new:=true
 h M w:=∃st:List β,Φ st∧(BG e sz (st.map f) v).h M w
 st M w M' w' he hk h:=let ⟨st,h1,h2⟩:=h;⟨st,h1,(BG e sz (st.map f) v).st M w M' w' he hk h2⟩
theorem BP.ve {g:FuncId} {l:List β} {res:Pr} [KG res] (h0:l=[]→A0 P g (is (.slice none 0 0)::ps) res∧Φ []) (h1:∀(b cap:Nat) (sp:List Value),BP P g (is (.slice (some ⟨b,0,none⟩) l.length cap)::ps) res (AF true b e ((l.map f).flatten++sp.map is)) (fun _=>Er b e f Φ (sp.map is))) (hl:∀st,Φ st→st.length=l.length) (hE:Entry P g):BP P g (is v::ps) res (BG e sz (l.map f) v) (fun _=>Ry e sz f Φ v):=by
 refine ⟨hE,fun M0 w0 S rs M w vs hI hv=> ?_⟩
 have hb0:=hI.hold _ (List.mem_cons_self ..)
 rcases hb0.1 with ⟨hnil,rfl⟩|oW
 ·
  have hln:l=[]:=by simpa using hnil
  obtain ⟨h01,h02⟩:=h0 hln
  refine (h01.2 M w vs hI.bd hv).mono ?_
  rintro e' w' ⟨u,rfl,h2,h3⟩
  have QI:A7 M0 w0 S (BG e sz (l.map f) (.slice none 0 0)::rs) M w':=(Hp M0 w0 S _).st _ _ _ h3 hI
  exact ⟨u,M,rfl,KG.free _ _ _ _ h2,Ext.below h3,QI.Ce (i:=0) rfl rfl rfl ⟨[],h02,.inl ⟨rfl,rfl⟩⟩⟩
 ·
  obtain ⟨b,cap,spare,rfl,hnc,hcm,hsp,jF⟩:=oW
  have hC:=hI.Ce (i:=0) (r':=AF true b e ((l.map f).flatten++spare.map is)) rfl rfl rfl jF
  have hlm:(l.map f).length=l.length:=List.length_map ..
  rw [hlm] at hv
  refine ((h1 b cap spare).2 M0 w0 S rs M w vs hC hv).mono ?_
  rintro e' w' ⟨u,M',rfl,h2,h3,h4⟩
  refine ⟨u,M',rfl,h2,h3,?_⟩
  obtain ⟨st,hp,hst⟩:=(h4.hold _ (List.mem_cons_self ..)).1
  have hlen:(st.map f).length=(l.map f).length:=by rw [List.length_map,List.length_map,hl st hp]
  exact h4.Ce (i:=0) rfl rfl rfl ⟨st,hp,.inr ⟨b,cap,spare,by rw [hlen],by rw [hlen];exact hnc,hcm,by rw [hlen];exact hsp,hst⟩⟩
theorem St.oY (j d:Nat) (hj:rs[j]? =some (Ry e sz f Φ v)) (hd:E.lookup d=some (AV v p)) (hf:∀x,(f x).length=sz) {w:World} (hs:St n E (Hp M0 w0 S rs) a w):
  ∃st:List β,Φ st∧St n ((d,AV v (slice sz (st.map f)))::E) (Hp M0 w0 S (rs.set j (As e sz v))) a w:=by
 obtain ⟨M,h1,h2,h3,h4⟩:=hs
 have h4:A7 M0 w0 S rs M w:=h4
 have hjl:j<rs.length:=by rcases Nat.lt_or_ge j rs.length with h|h;exact h;rw [List.getElem?_eq_none h] at hj;cases hj
 obtain ⟨st,hp,hst⟩:=(h4.hold _ (List.mem_of_getElem? hj)).1
 have h5:=h4.Ce (r':=BG e sz (st.map f) v) hj rfl rfl hst
 obtain ⟨M',h6,h7,h8⟩:=A7.Z_ h5 (List.getElem?_set_self hjl) (AW hf)
 rw [List.set_set] at h7
 refine ⟨st,hp,M',h1,h2,fun s q hq=> ?_,h7⟩
 simp only [List.lookup] at hq
 split at hq
 ·
  rename_i e1
  have:s=d:=by simpa using e1
  subst this
  simp only [Option.some.injEq] at hq
  subst hq
  have h9:=(h3 _ _ hd).1
  exact ⟨h9,by rw [h9];exact h8⟩
 · exact q.st _ _ _ _ _ h6 (h3 s q hq)
theorem TO.oY {Q:Exit→Act→World→Prop} {r:List Oper} (j d:Nat) (hj:rs[j]? =some (Ry e sz f Φ v)) (hd:E.lookup d=some (AV v p)) (hf:∀x,(f x).length=sz) (k:∀st:List β,Φ st→TO P n ops r ((d,AV v (slice sz (st.map f)))::E) (Hp M0 w0 S (rs.set j (As e sz v))) Q):TO P n ops r E (Hp M0 w0 S rs) Q:=
 fun m hl a w hs=>let ⟨st,h1,h2⟩:=hs.oY j d hj hd hf;k st h1 m hl a w h2
theorem Tr.oY {Q:Exit→Act→World→Prop} {c:Code} (j d:Nat) (hj:rs[j]? =some (Ry e sz f Φ v)) (hd:E.lookup d=some (AV v p)) (hf:∀x,(f x).length=sz) (k:∀st:List β,Φ st→Tr L n ((d,AV v (slice sz (st.map f)))::E) (Hp M0 w0 S (rs.set j (As e sz v))) c Q):Tr L n E (Hp M0 w0 S rs) c Q:=
 fun a w hs=>let ⟨st,h1,h2⟩:=hs.oY j d hj hd hf;k st h1 a w h2
theorem St.vg (j d:Nat) (hj:rs[j]? =some (BG e sz rows v)) (hd:E.lookup d=some (AV v p)) (hf:∀r∈rows,r.length=sz) {w:World} (hs:St n E (Hp M0 w0 S rs) a w):
  St n ((d,AV v (slice sz rows))::E) (Hp M0 w0 S (rs.set j (As e sz v))) a w:=by
 obtain ⟨M,h1,h2,h3,h4⟩:=hs
 have h4:A7 M0 w0 S rs M w:=h4
 obtain ⟨M',h6,h7,h8⟩:=A7.Z_ h4 hj hf
 refine ⟨M',h1,h2,fun s q hq=> ?_,h7⟩
 simp only [List.lookup] at hq
 split at hq
 ·
  rename_i e1
  have:s=d:=by simpa using e1
  subst this
  simp only [Option.some.injEq] at hq
  subst hq
  have h9:=(h3 _ _ hd).1
  exact ⟨h9,by rw [h9];exact h8⟩
 · exact q.st _ _ _ _ _ h6 (h3 s q hq)
theorem Tr.vg {Q:Exit→Act→World→Prop} {c:Code} (j d:Nat) (hj:rs[j]? =some (BG e sz rows v)) (hd:E.lookup d=some (AV v p)) (hf:∀r∈rows,r.length=sz) (k:Tr L n ((d,AV v (slice sz rows))::E) (Hp M0 w0 S (rs.set j (As e sz v))) c Q):Tr L n E (Hp M0 w0 S rs) c Q:=
 fun a w hs=>k a w (hs.vg j d hj hd hf)
theorem Gk (h:rows=[]):Pr.le (is (.slice none 0 0)) (AV (.slice none 0 0) (lens rows.length)):=by
 subst h;exact fun _ _ _ hv=>⟨hv,⟨none,0,by rw [hv];rfl⟩⟩
theorem DE {v:Value} {a:Nat} (h:a=b):Pr.le (AV v (lens a)) (AV v (lens b)):=by subst h;exact Pr.le_refl _
end
section
variable {P:Program} {L:Lg P} {n:Fm} {fz:Nat} {E:Env} {M0:Av} {w0:World} {S:Nat→Prop} {rs:List At} {o:Oper}
end
section
variable {P:Program} {L:Lg P} {n:Fm} {fz:Nat} {E:Env} {M0:Av} {w0:World} {S:Nat→Prop} {rs:List At} {ε:Type} {res:ε→List At}
def Hv (res:ε→List At) (es:List ε):List At:=es.flatMap res
theorem V5:∀{es:List ε} {k:Nat} {x:ε},es[k]? =some x→(Hv res es).Perm (res x++Hv res (es.eraseIdx k))
 |[],_,_,h=>by simp at h
 |a::es,0,x,h=>by
  simp only [List.getElem?_cons_zero,Option.some.injEq] at h
  subst h
  exact List.Perm.refl _
 |a::es,k+1,x,h=>by
  have ih:=V5 (es:=es) (k:=k) (x:=x) EJ
  show (res a++Hv res es).Perm (res x++(res a++Hv res (es.eraseIdx k)))
  refine (ih.append_left (res a)).trans ?_
  rw [←List.append_assoc,←List.append_assoc]
  exact List.perm_append_comm.append_right _
theorem fG:∀{es:List ε} {k:Nat} (x:ε),k<es.length→(res x++Hv res (es.eraseIdx k)).Perm (Hv res (es.set k x))
 |[],_,_,h=>absurd h (Nat.not_lt_zero _)
 |a::es,0,x,_=>List.Perm.refl _
 |a::es,k+1,x,h=>by
  have ih:=fG (es:=es) (k:=k) x EJ
  show (res x++(res a++Hv res (es.eraseIdx k))).Perm (res a++Hv res (es.set k x))
  refine List.Perm.trans ?_ (ih.append_left (res a))
  rw [←List.append_assoc,←List.append_assoc]
  exact List.perm_append_comm.append_right _
theorem Xq (es:List ε) (x:ε):Hv res (es++[x])=Hv res es++res x:=by unfold Hv;simp
theorem Rz {a b c:List At} (h:b.Perm c):(a++b).Perm (a++c):=h.append_left a
theorem St.perm (hp:rs.Perm rs') {w:World} (h:St n E (Hp M0 w0 S rs) a w):St n E (Hp M0 w0 S rs') a w:=by
 obtain ⟨M,h1,h2,h3,h4⟩:=h
 exact ⟨M,h1,h2,h3,A7.perm hp h4⟩
theorem Tr.focus {Q:Exit→Act→World→Prop} {c:Code} (Cz:List At) {es:List ε} {x:ε} (hx:es[k]? =some x) (Po:rs=Cz++Hv res es) (kk:Tr L n E (Hp M0 w0 S (res x++(Cz++Hv res (es.eraseIdx k)))) c Q):Tr L n E (Hp M0 w0 S rs) c Q:=
 Tr.conv (fun _ _ hs=>hs.perm (by
  subst Po
  refine (Rz (V5 hx)).trans ?_
  rw [←List.append_assoc,←List.append_assoc]
  exact List.perm_append_comm.append_right _)) kk
theorem NU (Cz:List At) {es:List ε} (x:ε) (hk:k<es.length) (Po:rs=res x++(Cz++Hv res (es.eraseIdx k))):rs.Perm (Cz++Hv res (es.set k x)):=by
 subst Po
 refine List.Perm.trans ?_ (Rz (fG x hk))
 rw [←List.append_assoc,←List.append_assoc]
 exact List.perm_append_comm.append_right _
theorem Fin.V6 {Q:Exit→Act→World→Prop} {e:Exit} (Cz:List At) {es:List ε} (x:ε) (hk:k<es.length) (Po:rs=res x++(Cz++Hv res (es.eraseIdx k))) (kk:Fin n E (Hp M0 w0 S (Cz++Hv res (es.set k x))) Q e):Fin n E (Hp M0 w0 S rs) Q e:=
 Fin.conv (fun _ _ hs=>hs.perm (NU Cz x hk Po)) kk
theorem Tr.V6 {Q:Exit→Act→World→Prop} {c:Code} (Cz:List At) {es:List ε} (x:ε) (hk:k<es.length) (Po:rs=res x++(Cz++Hv res (es.eraseIdx k))) (kk:Tr L n E (Hp M0 w0 S (Cz++Hv res (es.set k x))) c Q):Tr L n E (Hp M0 w0 S rs) c Q:=
 Tr.conv (fun _ _ hs=>hs.perm (NU Cz x hk Po)) kk
theorem Tr.fold {Q:Exit→Act→World→Prop} {c:Code} (Cz:List At) {es:List ε} (x:ε) (Po:rs=res x++(Cz++Hv res es)) (kk:Tr L n E (Hp M0 w0 S (Cz++Hv res (es++[x]))) c Q):Tr L n E (Hp M0 w0 S rs) c Q:=
 Tr.conv (fun _ _ hs=>hs.perm (by
  subst Po
  rw [Xq,←List.append_assoc Cz]
  exact List.perm_append_comm)) kk
theorem Tr.ADz {Q:Exit→Act→World→Prop} {c:Code} {sz:Nat} (j:Nat) (hj:rs[j]? =some (BG e sz rows v)) (hne:rows≠[]) (k:∀(b cap:Nat) (sp:List Value),v= .slice (some ⟨b,0,none⟩) rows.length cap→rows.length≤cap→cap≤maxLen→sp.length=(cap-rows.length)*sz→Tr L n E (Hp M0 w0 S (rs.set j (AF true b e (rows.flatten++sp.map is)))) c Q):Tr L n E (Hp M0 w0 S rs) c Q:=by
 intro a w hs
 obtain ⟨M,h1,h2,h3,h4⟩:=hs
 have h4:A7 M0 w0 S rs M w:=h4
 rcases (h4.hold _ (List.mem_of_getElem? hj)).1 with ⟨h5,_⟩|⟨b,cap,sp,rfl,h5,h6,h7,h8⟩
 · exact absurd h5 hne
 · exact k b cap sp rfl h5 h6 h7 a w ⟨M,h1,h2,h3,h4.Ce hj rfl rfl h8⟩
end
section
variable {P:Program} {L:Lg P} {n:Fm} {fz:Nat} {E:Env} {M0:Av} {w0:World} {S:Nat→Prop} {rs:List At} {o:Oper}
end
section
variable {P:Program} {L:Lg P} {n:Fm} {fz:Nat} {E:Env} {M0:Av} {w0:World} {S:Nat→Prop} {rs:List At} {o:Oper}
theorem BP.aA {sz:Nat} {res:Pr} (h:BP P f ps res R (fun v=>EN e sz rows v)):BP P f ps res R (fun v=>BG e sz rows v):=by
 refine ⟨h.1,fun M0 w0 S rs M w vs hI hv=>(h.2 M0 w0 S rs M w vs hI hv).mono ?_⟩
 rintro e' w' ⟨v,M',rfl,h2,h3,h4⟩
 exact ⟨v,M',rfl,h2,h3,h4.Ce (i:=0) rfl rfl rfl (.inr (h4.hold _ (List.mem_cons_self ..)).1)⟩
instance AB4 (p q:Pr) [KG p] [KG q]:KG (C_ [p,q]):=⟨fun M M' w v ⟨cs,h1,h2⟩=>⟨cs,h1,by
 match cs,h2 with
 |[a,b],h2=>exact ⟨KG.free _ _ _ _ h2.1,KG.free _ _ _ _ h2.2.1,trivial⟩⟩⟩
end
section
variable {P:Program} {L:Lg P} {n:Fm} {fz:Nat} {E:Env} {M0:Av} {w0:World} {S:Nat→Prop} {o:Oper}
end
section
variable {P:Program} {L:Lg P} {n:Fm} {fz:Nat} {E:Env} {M0:Av} {w0:World} {S:Nat→Prop} {rs:List At} {ε:Type} {res:ε→List At}
theorem A7.V7 {Φ:ε→Av→World→Prop} {w:World} (hst:∀x M M',Ext M w M' w→Φ x M w→Φ x M' w) (h1:∀x rs M,A7 M0 w0 S (res x++rs) M w→∃M',Ext M w M' w∧A7 M0 w0 S rs M' w∧Φ x M' w):
  ∀(X:List ε) (Cz:List At) (M:Av),A7 M0 w0 S (Cz++Hv res X) M w→∃M',Ext M w M' w∧A7 M0 w0 S Cz M' w∧∀x∈X,Φ x M' w
 |[],Cz,M,h=>⟨M,Ext.refl _ _,by simpa [Hv] using h,fun x hx=>by simp at hx⟩
 |x::X,Cz,M,h=>by
  have hp:(Cz++Hv res (x::X)).Perm (res x++(Cz++Hv res X)):=by
   show (Cz++(res x++Hv res X)).Perm _
   rw [←List.append_assoc,←List.append_assoc]
   exact List.perm_append_comm.append_right _
  obtain ⟨M1,g1,g2,g3⟩:=h1 x _ M (A7.perm hp h)
  obtain ⟨M2,k1,k2,k3⟩:=A7.V7 hst h1 X Cz M1 g2
  refine ⟨M2,g1.trans k1,k2,fun y hy=> ?_⟩
  rcases List.mem_cons.1 hy with rfl|hy
  · exact hst _ _ _ k1 g3
  · exact k3 y hy
theorem Tr.eqC {Q:Exit→Act→World→Prop} {c:Code} (j:Nat) {new:Bool} (qs:List Pr) (hi:rs[j]? =some (AF new b T ps)) (h:ps=qs) (k:Tr L n E (Hp M0 w0 S (rs.set j (AF new b T qs))) c Q):Tr L n E (Hp M0 w0 S rs) c Q:=by
 subst h;exact Tr.G9 j ps hi (Rd.rfl' ps) k
theorem Fin.eqC {Q:Exit→Act→World→Prop} {e:Exit} (j:Nat) {new:Bool} (qs:List Pr) (hi:rs[j]? =some (AF new b T ps)) (h:ps=qs) (k:Fin n E (Hp M0 w0 S (rs.set j (AF new b T qs))) Q e):Fin n E (Hp M0 w0 S rs) Q e:=by
 subst h;exact Fin.G9 j ps hi (Rd.rfl' ps) k
theorem oZ {sz:Nat} {w:World} (hl:rows.length=rows'.length) (hf:rows.flatten.length=rows'.flatten.length) (h:∀vs,HL M w rows.flatten vs→HL M w rows'.flatten vs) (ho:(BG e sz rows v).h M w):(BG e sz rows' v).h M w:=by
 rcases ho with ⟨h1,h2⟩|⟨b,cap,sp,h1,h2,h3,h4,h5,cs,h6,h7,h8⟩
 ·
  refine .inl ⟨?_,h2⟩
  subst h1
  exact List.length_eq_zero_iff.1 hl.symm
 ·
  refine .inr ⟨b,cap,sp,by rw [←hl];exact h1,by rw [←hl];exact h2,h3,by rw [←hl];exact h4,h5,cs,h6,?_,h8⟩
  have e1:=h7.take rows.flatten.length
  have e2:=h7.drop rows.flatten.length
  rw [List.take_left] at e1
  rw [List.drop_left] at e2
  have:=(h _ e1).app e2
  rwa [List.take_append_drop] at this
theorem Tr.V7 {Q:Exit→Act→World→Prop} {c:Code} {X:List ε} {Φ:ε→Av→World→Prop} {sz d:Nat} {f g:ε→List Pr} (Cz:List At) (Po:rs=BG e sz (X.map f) v::Cz++Hv res X) (hd:E.lookup d=some (AV v p)) (hf:∀x,(f x).length=sz) (hg:∀x,(g x).length=sz) (hst:∀x M M' w,Ext M w M' w→Φ x M w→Φ x M' w) (h1:∀x rs M w,A7 M0 w0 S (res x++rs) M w→∃M',Ext M w M' w∧A7 M0 w0 S rs M' w∧Φ x M' w) (h2:∀x M w vs,Φ x M w→HL M w (f x) vs→HL M w (g x) vs) (k:Tr L n ((d,AV v (slice sz (X.map g)))::E) (Hp M0 w0 S (As e sz v::Cz)) c Q):Tr L n E (Hp M0 w0 S rs) c Q:=by
 subst Po
 intro a w hs
 obtain ⟨M,k1,k2,k3,k4⟩:=hs
 have k4:A7 M0 w0 S ((BG e sz (X.map f) v::Cz)++Hv res X) M w:=k4
 obtain ⟨M1,g1,g2,g3⟩:=A7.V7 (Φ:=Φ) (fun x M M'=>hst x M M' w) (fun x rs M=>h1 x rs M w) X _ M k4
 have hlen:∀(f:ε→List Pr),(∀x,(f x).length=sz)→(X.map f).flatten.length=X.length*sz:=fun f hf=>by
  rw [C5 (AW hf),List.length_map]
 have hown:(BG e sz (X.map g) v).h M1 w:=by
  refine oZ AO (by rw [hlen f hf,hlen g hg]) (fun vs hvs=> ?_) (g2.hold _ (List.mem_cons_self ..)).1
  have key:∀(Y:List ε) (vs:List Value),(∀x∈Y,Φ x M1 w)→HL M1 w (Y.map f).flatten vs→HL M1 w (Y.map g).flatten vs:=by
   intro Y
   induction Y with
   |nil=>intro vs _ h;exact h
   |cons y Y ih=>
    intro vs hY h
    rw [List.map_cons,List.flatten_cons] at h ⊢
    have e1:=h.take (f y).length
    have e2:=h.drop (f y).length
    rw [List.take_left] at e1
    rw [List.drop_left] at e2
    have:=(h2 y M1 w _ (hY y (List.mem_cons_self ..)) e1).app (ih _ (fun x hx=>hY x (List.mem_cons_of_mem _ hx)) e2)
    rwa [List.take_append_drop] at this
  exact key X vs g3 hvs
 have g4:=g2.Ce (i:=0) (r':=BG e sz (X.map g) v) rfl rfl rfl hown
 obtain ⟨M2,j1,j2,j3⟩:=A7.Z_ (j:=0) g4 rfl (AW hg)
 refine k a w ⟨M2,k1,k2,fun s q hq=> ?_,j2⟩
 have hE:Ext M w M2 w:=g1.trans j1
 simp only [List.lookup] at hq
 split at hq
 ·
  rename_i e1
  have:s=d:=by simpa using e1
  subst this
  simp only [Option.some.injEq] at hq
  subst hq
  have h9:=(k3 _ _ hd).1
  exact ⟨h9,by rw [h9];exact j3⟩
 · exact q.st _ _ _ _ _ hE (k3 s q hq)
end
section
variable {P:Program} {L:Lg P} {n:Fm} {fz:Nat} {E:Env} {M0:Av} {w0:World} {S:Nat→Prop} {o:Oper}
theorem Xr {I:C1} (ho:o.op= .call { callee:= .builtin .len,args:= #[x],argTypes:= #[t] }) (ht:P.underlying t=some (.slice e)) (hx:VL E x (lens m)):Ac P I o E (int m):=
 Ac.same fun M w a he _=>by
  obtain ⟨A,c,h1⟩:=hx.ev he DG
  exact ⟨.int .i64 m,by simp [execOp,ho,resolve,invoke,builtin,Builtin.len_,h1,run_underlying ht,goInt],rfl⟩
end
end Cp
namespace Cp
open Go Go.RowKit
section
variable {P:Program} {L:Lg P} {I:C1} {o:Oper} {E:Env}
theorem jG {c y:Operand} {b d:Bool} (ho:o.op= .pick c (.const (.bool true)) y) (hc:VL E c (bool b)) (hy:VL E y (bool d)):Ac P I o E (bool (b||d)):=by
 cases b with
 |true=>exact LP ho hc rfl (vl rfl)
 |false=>exact E7 ho hc rfl hy
theorem aB {c x:Operand} {b d:Bool} (ho:o.op= .pick c x (.const (.bool false))) (hc:VL E c (bool b)) (hx:VL E x (bool d)):Ac P I o E (bool (b&&d)):=by
 cases b with
 |true=>exact LP ho hc rfl hx
 |false=>exact E7 ho hc rfl (vl rfl)
theorem R3 {β:Type} {g:β→Pr} {l:List β} {qs:List Pr} {i:Int} (h:i.toNat<l.length):((l.map fun x=>[g x]).flatten++qs)[0+i.toNat*1]? =some (g (l[i.toNat]'h)):=
 Xp (f:=fun x=>[g x]) (fun _=>rfl) (List.getElem?_eq_getElem h) rfl
end
section
variable {P:Program} {L:Lg P} {n:Fm} {fz:Nat} {E:Env} {M0:Av} {w0:World} {S:Nat→Prop} {rs:List At} {o:Oper}
end
end Cp
namespace Cp
open Go Go.RowKit Go.Great
variable {a:Act} {ops:Array Oper} {xs:Array Operand} {ts:Array TypeId} {M:Av} {f:FuncId} {rows rows':List (List Pr)} {args ps qs:List Pr} {rs':List At} {b i j k m n:Nat} {o:Oper} {x:Operand} {p q:Pr} {R:At} {T e t:TypeId} {v:Value}
def Ef {α:Type} (P:Program) (f:FuncId) (args:List Pr) (pre:List At) (C:α→Prop) (res:α→Pr) (post:α→List At):Prop:=Entry P f∧∀M0 w0 S rs M w vs,A7 M0 w0 S (pre++rs) M w→HL M w args vs→
 Calls P f vs.toArray w fun e w'=>∃v M' x,e= .returned v∧C x∧(res x).h M' w' v∧Ext M w M' w'∧A7 M0 w0 S (post x++rs) M' w'
def PM {α:Type} (M0:Av) (w0:World) (S:Nat→Prop) (rs:List At) (M1:Av) (w1:World) (C:α→Prop) (res:α→Pr) (post:α→List At) (e:Ending) (w':World):Prop:=∃v M' x,e= .returned v∧C x∧(res x).h M' w' v∧Ext M1 w1 M' w'∧A7 M0 w0 S (post x++rs) M' w'
section
variable {P:Program} {L:Lg P} {n:Fm} {fz:Nat} {E:Env} {M0:Av} {w0:World} {S:Nat→Prop} {rs:List At} {α:Type} {pre:List At} {C:α→Prop} {res:α→Pr} {post:α→List At} {M1:Av} {w1:World} {g:Func} {o:Oper} {r:List Oper} {ops:Array Oper}
theorem Ef.of {c : Code} (hf : P.funcs[f]? = some g) (hb : g.body = some c) (hname : (g.name == "runtime.NumGoroutine") = false) (hlen : ps.length ≤ g.ntmps) (h : ∀ M0 w0 S rs M1 w1, Tr (ZK P) g.ntmps (MJ 0 ps) (Hp M0 w0 S (pre ++ Ai M1 w1 :: rs)) c (bodyPost P g (PM M0 w0 S rs M1 w1 C res post))) : Ef P f ps pre C res post := by
 refine ⟨⟨g,hf,hname,by rw [hb];rfl⟩,fun M0 w0 S rs M w vs hI hv=> ?_⟩
 refine calls_of_wp hf hb (h M0 w0 S rs M w _ _ ⟨M,?_,rfl,GL hv,?_⟩)
 ·
  have:=hv.length
  simp [this];omega
 · exact Zs
theorem A7.Gs {w:World} {rest:List At} (hf:Ef P f args pre C res post) (hp:rs.Perm (pre++rest)) (hI:A7 M0 w0 S rs M w) {vs:List Value} (hv:HL M w args vs):
  Calls P f vs.toArray w fun e w'=>∃v M' x,e= .returned v∧C x∧(res x).h M' w' v∧Ext M w M' w'∧A7 M0 w0 S (post x++rest) M' w':=hf.2 M0 w0 S rest M w vs (A7.perm hp hI) hv
theorem TO.Gs {Q:Exit→Act→World→Prop} (rest:List At) {d:Nat} (hg:o.guard=none) (hd:o.dst=some d) (hn:d<n) (ho:o.op= .call { callee:= .value (.func f),args:=xs,argTypes:=ts }) (hf:Ef P f ps pre C res post) (hv:Gy E xs.toList ps) (hp:rs.Perm (pre++rest)) (k:∀x,C x→TO P n ops r ((d,res x)::E) (Hp M0 w0 S (post x++rest)) Q):TO P n ops (o::r) E (Hp M0 w0 S rs) Q:=
 TO.ir hg fun K M w a hsz hdf he hI hK=>by
  have hI:A7 M0 w0 S rs M w:=hI
  have h1:=Gy.FN (o:=o) (Cj he) (xs:=xs.toList) (fun x hx=>by simp [ho,Op.operands,Call.operands];exact .inr FL) hv
  have hrun:(execOp a.eval o).run P w= .ok (.enter f (xs.toList.map a.eval).toArray) w:=by
   simp [execOp,ho,resolve,Deferred.ofValue,Act.eval,invoke,DD hf.1,Fz xs]
  unfold Oper.wp
  rw [hrun]
  refine (A7.Gs hf hp hI h1).mono ?_
  rintro e w' ⟨v,M',x,rfl,hC,h2,h3,h4⟩
  refine hK _ _ _ _ (k x hC) ⟨M',by rw [CB];exact hsz,by rw [put_defers];exact hdf,?_,h4⟩
  intro s q hq
  simp only [List.lookup] at hq
  by_cases hs:s=d
  · subst hs;simp at hq;subst hq;rw [hd,Bz Gx];exact h2
  · rw [show (s==d)=false by simpa using hs] at hq;rw [hd,BW hs];exact q.st _ _ _ _ _ h3 (he s q hq)
theorem GR {l:List At} {w:World} (h:A7 M0 w0 S (l++Ai M1 w1::rs) M w):Ext M1 w1 M w∧A7 M0 w0 S (l++rs) M w:=
 ⟨(h.hold (Ai M1 w1) AO).1,(A7.perm List.perm_middle h).J0⟩
theorem Fin.yx {rv:ResultVar} (x:α) (hr:g.results= #[rv]) (h:AL P E rs' rv q) (hC:C x) (hl:Pr.le q (res x)) (hp:rs'.Perm (post x++Ai M1 w1::rs)):
  Fin ⟨fz,[]⟩ E (Hp M0 w0 S rs') (bodyPost P g (PM M0 w0 S rs M1 w1 C res post)) .ret:=by
 rintro a w ⟨M,_,hd,he,hi⟩
 have hi:A7 M0 w0 S rs' M w:=hi
 obtain ⟨v,hv,hp'⟩:=h M w a he (fun q hq=>(hi.hold q hq).1)
 obtain ⟨h1,h2⟩:=GR (A7.perm hp hi)
 exact ⟨hd,v,results1 hr hv,_,M,x,rfl,hC,hl _ _ _ hp',h1,h2⟩
theorem Fin.I0 {rv rv':ResultVar} {q':Pr} (x:α) (hr:g.results= #[rv,rv']) (h:AL P E rs' rv q) (h':AL P E rs' rv' q') (hC:C x) (hl:Pr.le (C_ [q,q']) (res x)) (hp:rs'.Perm (post x++Ai M1 w1::rs)):
  Fin ⟨fz,[]⟩ E (Hp M0 w0 S rs') (bodyPost P g (PM M0 w0 S rs M1 w1 C res post)) .ret:=by
 rintro a w ⟨M,_,hd,he,hi⟩
 have hi:A7 M0 w0 S rs' M w:=hi
 obtain ⟨v,hv,Te⟩:=h M w a he (fun q hq=>(hi.hold q hq).1)
 obtain ⟨v',nR,hp2⟩:=h' M w a he (fun q hq=>(hi.hold q hq).1)
 obtain ⟨h1,h2⟩:=GR (A7.perm hp hi)
 exact ⟨hd,_,results2 hr hv nR,_,M,x,rfl,hC,hl _ _ _ ⟨[_,_],rfl,Te,hp2,trivial⟩,h1,h2⟩
end
section
variable {P:Program} {L:Lg P} {n:Fm} {fz:Nat} {E:Env} {M0:Av} {w0:World} {S:Nat→Prop} {rs:List At} {o:Oper}
def AAV:Value→Option Nat
 | .slice (some a) _ (_+1)=>some a.block
 |_=>none
def Ba (e:TypeId) (sz:Nat) (rows:List (List Pr)) (v:Value):At where
 blk:=AAV v
 new:=true
 h M w:=(rows=[]∧∃A,v= .slice A 0 0)∨(∃(b cap:Nat) (spare:List Value),v= .slice (some ⟨b,0,none⟩) rows.length (cap+1)∧rows.length≤cap+1∧cap+1≤maxLen∧spare.length=(cap+1-rows.length)*sz∧(AF true b e (rows.flatten++spare.map is)).h M w)
 st M w M' w' he hk h:=by
  rcases h with h|⟨b,cap,spare,rfl,h1,h2,h3,h4⟩
  · exact .inl h
  · exact .inr ⟨b,cap,spare,rfl,h1,h2,h3,(AF true b e _).st _ _ _ _ he hk h4⟩
theorem BH {α:Type} {l:List α} {x:α} (h:l[j]? =some x):j<l.length:=by grind
theorem A7.blank {w:World} {r:At} (h:A7 M0 w0 S rs M w) (hj:rs[j]? =some r):A7 M0 w0 S (rs.set j Bf) M w:=
 A7.perm (KY (BH hj)) ((A7.perm (CH hj) h).J0.Im (r:=Bf) rfl trivial)
theorem R4 (sz:Nat) (A:Option Addr) (M:Av) (w:World):(slice sz []).h M w (.slice A 0 0):=⟨A,0,rfl,Nat.le_refl _,Nat.zero_le _,fun _=>rfl,fun i row h=>by simp at h⟩
theorem jH (sz:Nat) (A:Option Addr) (M:Av) (w:World):(full sz []).h M w (.slice A 0 0):=⟨R4 sz A M w,A,rfl⟩
theorem A7.AAW {w:World} {sz:Nat} (h:A7 M0 w0 S rs M w) (hj:rs[j]? =some (Ba e sz rows v)) (hl:∀r∈rows,r.length=sz):
  ∃M',Ext M w M' w∧A7 M0 w0 S (rs.set j Bf) M' w∧(slice sz rows).h M' w v:=by
 have hjl:=BH hj
 rcases (h.hold _ (List.mem_of_getElem? hj)).1 with ⟨rfl,A,rfl⟩|⟨b,cap,spare,rfl,hnc,hcm,hsp,jF⟩
 · exact ⟨M,Ext.refl _ _,h.blank hj,R4 sz A M w⟩
 ·
  have hC:=h.Ce (r':=AF true b e (rows.flatten++spare.map is)) hj rfl rfl jF
  obtain ⟨M',h1,h2,h3⟩:=A7.frz hC (List.getElem?_set_self hjl) hl hnc hcm (by rw [List.length_map];exact hsp)
  have h4:=h2.blank (j:=j) (by rw [List.set_set];exact List.getElem?_set_self hjl)
  rw [List.set_set,List.set_set] at h4
  exact ⟨M',h1,h4,h3⟩
theorem HL.set {w:World} {vs:List Value} (h:HL M w ps vs) (hk:ps[k]? =some p) (hq:∀u,p.h M w u→q.h M w u):HL M w (ps.set k q) vs:=by
 refine UH (by rw [h.length];simp) fun k' p' hk'=> ?_
 rw [List.getElem?_set] at hk'
 split at hk'
 ·
  rename_i e1
  subst e1
  split at hk'
  ·
   obtain ⟨u,hu,hpu⟩:=h.at_ k p hk
   simp at hk';subst hk'
   exact ⟨u,hu,hq u hpu⟩
  · cases hk'
 · exact h.at_ k' p' hk'
theorem A7.CA {w:World} {sz:Nat} {new:Bool} (h:A7 M0 w0 S rs M w) (hi:rs[i]? =some (AF new b T ps)) (hj:rs[j]? =some (Ba e sz rows v)) (hij:j≠i) (hk:ps[k]? =some (is v)) (hl:∀r∈rows,r.length=sz):
  ∃M',Ext M w M' w∧A7 M0 w0 S ((rs.set j Bf).set i (AF new b T (ps.set k (slice sz rows)))) M' w:=by
 obtain ⟨M',h1,h2,h3⟩:=h.AAW hj hl
 have hi':(rs.set j Bf)[i]? =some (AF new b T ps):=by grind
 refine ⟨M',h1,h2.Ce hi' rfl rfl ?_⟩
 obtain ⟨g1,cs,g2,g3,g4⟩:=(h2.hold _ (List.mem_of_getElem? hi')).1
 exact ⟨g1,cs,g2,g3.set hk (fun u hu=>by rw [show u=v from hu];exact h3),g4⟩
def part (sz:Nat) (v:Value) (k:Nat):Pr where
 h _ _ u:=∃a m c,v= .slice a m c∧k≤m∧u= .slice (if c=k then a else a.map fun x=>x.add (k*sz)) (m-k) (c-k)
 st _M _w _M' _w' _v _ h:=h
instance AD0 (sz:Nat) (v:Value) (k:Nat):One (part sz v k):=⟨by rintro M w u ⟨a,m,c,h1,h2,rfl⟩;exact ⟨rfl,rfl⟩⟩
theorem BP.frz {sz:Nat} (hl:∀r∈rows,r.length=sz) (h:BP P f args (lens m) R (fun v=>BG e sz rows v)):BP P f args (slice sz rows) R (fun _=>Bf):=by
 refine ⟨h.1,fun M0 w0 S rs M w vs hI hv=>(h.2 M0 w0 S rs M w vs hI hv).mono ?_⟩
 rintro e' w' ⟨v,M',rfl,h2,h3,h4⟩
 obtain ⟨M2,j1,j2,j3⟩:=A7.Z_ (j:=0) h4 rfl hl
 exact ⟨v,M2,rfl,j3,h3.trans j1,j2.blank (j:=0) rfl⟩
theorem BP.AD1 {sz:Nat} (hl:∀r∈rows,r.length=sz) (h:BP P f args (lens m) R (fun v=>EN e sz rows v)):BP P f args (slice sz rows) R (fun _=>Bf):=
 BP.frz hl (BP.aA h)
theorem BP.R5 {sz:Nat} {res:Pr} (h0:rows≠[]) (h:BP P f ps res R (fun v=>EN e sz rows v)):BP P f ps res R (fun v=>Ba e sz rows v):=by
 refine ⟨h.1,fun M0 w0 S rs M w vs hI hv=>(h.2 M0 w0 S rs M w vs hI hv).mono ?_⟩
 rintro e' w' ⟨v,M',rfl,h2,h3,h4⟩
 refine ⟨v,M',rfl,h2,h3,?_⟩
 have hpos:=List.length_pos_iff.2 h0
 obtain ⟨b,cap,spare,rfl,hnc,hcm,hsp,jF⟩:=(h4.hold _ (List.mem_cons_self ..)).1
 cases cap with
 |zero=>omega
 |succ cap=>exact h4.Ce (i:=0) rfl rfl rfl (.inr ⟨b,cap,spare,rfl,hnc,hcm,hsp,jF⟩)
theorem BP.Xs {sz sz':Nat} (h:A0 P f ps (full sz' [])):BP P f ps (lens 0) Bf (fun v=>Ba e sz [] v):=by
 refine ⟨h.1,fun M0 w0 S rs M w vs hI hv=>(h.2 M w vs hI.bd hv).mono ?_⟩
 rintro e' w' ⟨v,rfl,⟨_,a,rfl⟩,h3⟩
 refine ⟨_,M,rfl,⟨_,_,rfl⟩,Ext.below h3,?_⟩
 have QI:A7 M0 w0 S (Bf::rs) M w':=(Hp M0 w0 S _).st _ _ _ h3 hI
 exact QI.Ce (i:=0) (r':=Ba e sz [] (.slice a 0 0)) rfl (by cases a<;>rfl) rfl (.inl ⟨rfl,a,rfl⟩)
def elp (sz:Nat) (v:Value) (i o:Nat):Pr where
 h _ _ u:=∃a m c,v= .slice (some a) m c∧u= .pointer (some (a.add (i*sz+o)))
 st _M _w _M' _w' _v _ h:=h
instance AGK (sz:Nat) (v:Value) (k o:Nat):One (elp sz v k o):=⟨by rintro M w u ⟨a,m,c,h1,rfl⟩;exact ⟨rfl,rfl⟩⟩
theorem Dy {y:Operand} {k:IntKind} {l:Int} {sz:Nat} (ho:o.op= .indexAddr t x y) (ht:P.underlying t=some (.slice e)) (hz:A9 P e=some sz) (hx:VL E x (is v)) (hy:VL E y (is (.int k l))) (h0:0≤l) (hl:l<rows.length):
  KW P M0 w0 S j (SR.c (Ba T sz rows v)) o E (elp sz v l.toNat 0):=by
 intro M w a rs he hI hj
 have h1:a.eval x=v:=hx.ev he Au
 have h3:a.eval y= .int k l:=hy.ev he Au
 have hj':rs[j]? =some (Ba T sz rows v):=hj
 rcases (hI.hold _ (List.mem_of_getElem? hj')).1 with ⟨rfl,A,hv⟩|⟨b,cap,spare,hv,hnc,hcm,hsp,jF⟩
 · simp at hl;omega
 ·
  have hrun:(execOp a.eval o).run P w= .ok (.value (.pointer (some ((⟨b,0,none⟩:Addr).add (l.toNat*sz))))) w:=by
   simp [execOp,ho,h1,h3,hv,Instr.indexAt,asIntOf,run_underlying ht,C7 hz,h0,hl]
  rw [hrun]
  exact ⟨⟨_,_,_,hv,rfl⟩,Below.refl _ _⟩
theorem aC {I:C1} {f sz q off:Nat} (ho:o.op= .fieldAddr t x f) (hf:Ab P t f=some off) (hx:VL E x (elp sz v i q)):Ac P I o E (elp sz v i (q+off)):=
 Ac.same fun M w a he _=>by
  obtain ⟨a0,m0,c0,hv,h1⟩:=hx.ev he Au
  exact ⟨.pointer (some ((a0.add (i*sz+q)).add off)),by simp [execOp,ho,h1,KU hf],a0,m0,c0,hv,by rw [add_add,Nat.add_assoc]⟩
theorem jI {sz:Nat} {row:List Pr} (ho:o.op= .load t x) (ht:Fy P t=true) (hz:A9 P t=some sz) (hx:VL E x (elp sz v i 0)) (hl:∀r∈rows,r.length=sz) (hi:rows[i]? =some row):
  KW P M0 w0 S j (SR.c (Ba T sz rows v)) o E (agg row):=by
 intro M w a rs he hI hj
 obtain ⟨a0,m0,c0,eW,h1⟩:=hx.ev he Au
 rw [Nat.add_zero] at h1
 have hj':rs[j]? =some (Ba T sz rows v):=hj
 rcases (hI.hold _ (List.mem_of_getElem? hj')).1 with ⟨rfl,A,hv⟩|⟨b,cap,spare,hv,hnc,hcm,hsp,⟨_,cs,h4,h5,h6⟩⟩
 · simp at hi
 ·
  rw [eW] at hv
  injection hv with e1 e2 e3
  injection e1 with e1
  subst e1
  have Gm:=BH hi
  have hrl:=hl row (List.mem_of_getElem? hi)
  have hfl:=C5 hl
  have hle:(i+1)*sz≤rows.length*sz:=Nat.mul_le_mul_right sz Gm
  rw [Nat.add_mul] at hle
  have h7:HL M w row ((cs.drop (i*sz)).take sz):=by
   have h8:=(h5.drop (i*sz)).take sz
   have e4:((rows.flatten++spare.map is).drop (i*sz)).take sz=row:=by
    refine List.ext_getElem? fun j=> ?_
    rw [List.getElem?_take]
    split
    ·
     rename_i hj
     rw [List.getElem?_drop,List.getElem?_append_left (by rw [hfl];omega),IF hl hi hj]
    · grind
   rwa [e4] at h8
  have hl':((cs.drop (i*sz)).take sz).length=sz:=by rw [h7.length,hrl]
  have hrun:(loadCells ((⟨b,0,none⟩:Addr).add (i*sz)) sz).run P w= .ok ((cs.drop (i*sz)).take sz).toArray w:=by
   have:=run_loadCells_list (P:=P) w ((⟨b,0,none⟩:Addr).add (i*sz)) ((cs.drop (i*sz)).take sz) (fun k u hk=>by
    rw [add_add,F1]
    rw [List.getElem?_take] at hk
    split at hk
    · rw [List.getElem?_drop] at hk;simp [World.cell?,h4,hk]
    · cases hk)
   rwa [hl'] at this
  have Ee:(execOp a.eval o).run P w= .ok (.value (.agg ((cs.drop (i*sz)).take sz).toArray)) w:=by simp [execOp,ho,h1,Instr.loadAt,Instr.sureAddr,loadVar,Gd ht,C7 hz,hrun]
  rw [Ee]
  exact ⟨⟨_,rfl,fun c hc=>h6 c (List.mem_of_mem_drop (List.mem_of_mem_take hc)),h7⟩,Below.refl _ _⟩
theorem Xt {sz:Nat}:∀{rows:List (List Pr)} {i:Nat} {row:List Pr} {o:Nat} {qs S:List Pr},(∀r∈rows,r.length=sz)→rows[i]? =some row→o+qs.length≤sz→
  (rows.flatten++S).take (i*sz+o)++qs++(rows.flatten++S).drop (i*sz+o+qs.length)=(rows.set i (row.take o++qs++row.drop (o+qs.length))).flatten++S
 |[],_,_,_,_,_,_,h,_=>by simp at h
 |a::l,0,row,o,qs,S,hl,h,ho=>by
  simp at h;subst h
  have h1:=hl a AO
  rw [List.set_cons_zero,List.flatten_cons,List.flatten_cons,Nat.zero_mul,Nat.zero_add,List.append_assoc a,List.take_append_of_le_length AA,List.drop_append_of_le_length AA]
  simp
 |a::l,i+1,row,o,qs,S,hl,h,ho=>by
  have h1:=hl a AO
  have ih:=Xt (S:=S) (fun r hr=>hl r (List.mem_cons_of_mem _ hr)) (i:=i) (row:=row) (o:=o) (qs:=qs) EJ ho
  rw [List.set_cons_succ, List.flatten_cons, List.flatten_cons, List.append_assoc a, List.append_assoc a, ← ih, List.take_append, List.drop_append, List.take_of_length_le (by rw [h1, Nat.succ_mul]; omega), List.drop_of_length_le (by rw [h1, Nat.succ_mul]; omega),
   show (i+1)*sz+o-a.length=i*sz+o by rw [h1,Nat.succ_mul];omega,show (i+1)*sz+o+qs.length-a.length=i*sz+o+qs.length by rw [h1,Nat.succ_mul];omega]
  simp
theorem Ca {y:Operand} {sz q:Nat} {row:List Pr} (hg:o.guard=none) (ho:o.op= .store t x y) (hx:VL E x (elp sz v i q)) (hy:VL E y (DA qs)) (hz:A9 P t=some m) (hm:qs.length=m) (hl:∀r∈rows,r.length=sz) (hi:rows[i]? =some row) (hq:q+m≤sz) (hps:rows.set i (row.take q++qs++row.drop (q+m))=rows'):DH P M0 w0 S n j (SR.c (Ba T sz rows v)) (SR.c (Ba T sz rows' v)) o E any:=by
 refine ⟨hg,fun M w a rs hsz he hI hj=> ?_⟩
 obtain ⟨a0,m0,c0,eW,h1⟩:=hx.ev he (show x∈o.op.operands.toList by simp [ho,Op.operands])
 obtain ⟨h2,h3⟩:=hy.ev he (show y∈o.op.operands.toList by simp [ho,Op.operands])
 have hj':rs[j]? =some (Ba T sz rows v):=hj
 have hjl:=BH hj'
 rcases (hI.hold _ (List.mem_of_getElem? hj')).1 with ⟨rfl,A,hv⟩|⟨b,cap,spare,hv,hnc,hcm,hsp,jF⟩
 · simp at hi
 ·
  subst hv
  injection eW with e1 e2 e3
  injection e1 with e1
  subst e1
  have hC:=hI.Ce (r':=AF true b T (rows.flatten++spare.map is)) hj' rfl rfl jF
  have hjC:(rs.set j (AF true b T (rows.flatten++spare.map is)))[j]? =some (AF true b T (rows.flatten++spare.map is)):=List.getElem?_set_self hjl
  obtain ⟨_,cs,h4,h5,h6⟩:=jF
  have h5l:=h5.length
  have h2l:=h2.length
  have Gm:=BH hi
  have hfl:=C5 hl
  rw [List.length_append,hfl,List.length_map] at h5l
  have hle:(i+1)*sz≤rows.length*sz:=Nat.mul_le_mul_right sz Gm
  rw [Nat.succ_mul] at hle
  have hcells:(a.eval y).cells.size=m:=by rw [←hm,←h2l];simp
  have hrun:(storeCells ((⟨b,0,none⟩:Addr).add (i*sz+q)) (a.eval y).cells.toList 0).run P w= .ok () (w.setRow b (cs.take (i*sz+q)++(a.eval y).cells.toList++cs.drop (i*sz+q+m)).toArray):=by
   have:=run_storeCells_at (P:=P) b (i*sz+q) T (a.eval y).cells.toList 0 cs.toArray w h4 CL h3
   rw [F1,Nat.zero_add]
   simpa [hcells] using this
  have Ee:(execOp a.eval o).run P w= .ok .skip (w.setRow b (cs.take (i*sz+q)++(a.eval y).cells.toList++cs.drop (i*sz+q+m)).toArray):=by
   simp [execOp,ho,h1,Instr.storeAt,Instr.sureAddr,storeVar,C7 hz,hcells,hrun]
  rw [Ee]
  have hfs:=Xt (S:=spare.map is) hl hi (o:=q) (qs:=qs) AA
  rw [hm,hps] at hfs
  obtain ⟨h7, h8⟩ := A7.write (qs := rows'.flatten ++ spare.map is) (cs := cs.take (i * sz + q) ++ (a.eval y).cells.toList ++ cs.drop (i * sz + q + m)) hC hjC (by rw [← hfs]; exact (((h5.take (i * sz + q)).app h2)).app (h5.drop (i * sz + q + m)))
   (fun c hc=>by
    simp only [List.mem_append] at hc
    rcases hc with (hc|hc)|hc
    · grind
    · exact h3 c hc
    · exact h6 c (List.mem_of_mem_drop hc))
  rw [List.set_set] at h7
  refine ⟨M,trivial,h8,?_⟩
  have hlen:rows'.length=rows.length:=by rw [←hps,List.length_set]
  have h9:=h7.Ce (r':=Ba T sz rows' (.slice (some ⟨b,0,none⟩) rows.length (cap+1))) (List.getElem?_set_self hjl) rfl rfl (.inr ⟨b,cap,spare,by rw [hlen],by rw [hlen];exact hnc,hcm,by rw [hlen];exact hsp,(h7.hold _ (List.mem_of_getElem? (List.getElem?_set_self hjl))).1⟩)
  rw [List.set_set] at h9
  exact h9
theorem A7.oa:∀{l:List At} {M:Av} {w:World},A7 M0 w0 S (l++rs) M w→A7 M0 w0 S rs M w
 |[],_,_,h=>h
 |_::l,_,_,h=>A7.oa (l:=l) h.J0
end
section
variable {P:Program} {L:Lg P} {E:Env} {I:C1} {o:Oper}
theorem og {cx:Operand} {caps:List Pr} {res:Pr} (ho:o.op= .call { callee:= .value cx,args:=xs,argTypes:=ts }) (hc:VL E cx (fn (.func f) caps)) (hf:A0 P f (ps++caps) res) (hv:Gy E xs.toList ps):Ac P I o E res:=by
 intro M w a he hI
 have h1:=Gy.FN (o:=o) he (xs:=xs.toList) (fun x hx=>by simp [ho,Op.operands,Call.operands];exact .inr FL) hv
 obtain ⟨cs,h2,h3⟩:=hc.ev he DG
 have hrun:(execOp a.eval o).run P w= .ok (.enter f ((xs.toList.map a.eval).toArray++cs.toArray)) w:=by
  simp [execOp,ho,resolve,Deferred.ofValue,h2,invoke,DD hf.1,Fz xs]
 rw [hrun]
 have h4:=hf.2 M w _ (I.bd _ _ hI) (h1.app h3)
 exact ⟨Below.refl _ _,by simpa using h4⟩
section
variable {n:Fm} {fz:Nat} {M0:Av} {w0:World} {S:Nat→Prop}
end
end
def allI (p:Nat→Bool) (n:Nat):Bool:=(List.range n).all p
theorem CD {p:Nat→Bool}:allI p n=true↔∀j,j<n→p j=true:=by unfold allI;simp
theorem oh {p:Nat→Bool} (h:∀j,j<n→p j=true):allI p n=true:=CD.2 h
theorem RK {p:Nat→Bool} (hk:k<n) (h:p k=false):allI p n=false:=by
 rw [Bool.eq_false_iff];intro h';rw [CD.1 h' k hk] at h;cases h
theorem EO {p:Nat→Bool} (h:∀j,j<k→p j=true) (hk:p k=true):∀j,j<k+1→p j=true:=by
 intro j hj
 by_cases e:j=k
 · subst e;exact hk
 · exact h j AA
section
variable {P:Program} {L:Lg P} {n:Fm} {fz:Nat} {I:C1}
def AD2 (P:Program) (I':C1) (M:Av) (w:World) (p:Pr):Result Next→Prop
 | .ok (.value v) w'=>∃M',p.h M' w' v∧Ext M w M' w'∧I'.h M' w'
 | .ok .skip w'=>∃M',p.h M' w' undef∧Ext M w M' w'∧I'.h M' w'
 | .ok (.enter f args) w'=>Calls P f args w' fun e w''=>∃v M',e= .returned v∧p.h M' w'' v∧Ext M w M' w''∧I'.h M' w''
 |_=>False
def om (P:Program) (n:Fm) (I I':C1) (o:Oper) (E:Env) (p:Pr):Prop:=o.guard=none∧∀M w (a:Act),a.tmps.size=n.sz→Cn M w E o a→I.h M w→AD2 P I' M w p ((execOp a.eval o).run P w)
def UK (P:Program) (n:Fm) (I:C1) (ops:Array Oper):Nat→List Oper→Env→(C1→Env→Prop)→Prop
 |_,[],_,_=>False
 |0,o::r,E,K=>∃p I',om P n I I' o E p∧(∀d,o.dst=some d→d<n)∧Ch P n I' ops r (upd o p E) (K I')
 |c+1,o::r,E,K=>∃p,nB P I ops o E p∧(∀d,o.dst=some d→d<n)∧UK P n I ops c r (upd o p E) K
theorem UK.op {r:List Oper} {E:Env} {K:C1→Env→Prop} {d c:Nat} (hg:o.guard=none) (hd:o.dst=some d) (hn:d<n) (h:Ac P I o E p) (k:UK P n I ops c r ((d,p)::E) K):UK P n I ops (c+1) (o::r) E K:=
 ⟨p,by unfold nB;rw [hg];exact h,fun d' hd'=>by rw [hd] at hd';cases hd';exact hn,by unfold upd;rw [hd];exact k⟩
theorem UK.turn {r:List Oper} {E:Env} {K:C1→Env→Prop} {d:Nat} (I':C1) (hd:o.dst=some d) (hn:d<n) (h:om P n I I' o E p) (k:Ch P n I' ops r ((d,p)::E) (K I')):UK P n I ops 0 (o::r) E K:=
 ⟨p,I',h,fun d' hd'=>by rw [hd] at hd';cases hd';exact hn,by unfold upd;rw [hd];exact k⟩
def Tf (P:Program) (f:FuncId) (args:List Pr) (pre:List At) (res:Pr) (post:List At):Prop:=Ef (α:=Unit) P f args pre (fun _=>True) (fun _=>res) (fun _=>post)
section
variable {M0:Av} {w0:World} {S:Nat→Prop} {rs:List At} {E:Env} {o:Oper} {g:Func} {M1:Av} {w1:World}
theorem Tf.of {c : Code} {pre post : List At} {res : Pr} (hf : P.funcs[f]? = some g) (hb : g.body = some c) (hname : (g.name == "runtime.NumGoroutine") = false) (hlen : ps.length ≤ g.ntmps) (h : ∀ M0 w0 S rs M1 w1, Tr (ZK P) g.ntmps (MJ 0 ps) (Hp M0 w0 S (pre ++ Ai M1 w1 :: rs)) c (bodyPost P g (PM M0 w0 S rs M1 w1 (fun _ : Unit => True) (fun _ => res) (fun _ => post)))) : Tf P f ps pre res post :=
 Ef.of hf hb hname hlen h
theorem BP.pure {res:Pr} {R':Value→At} (h:BP P f args res Bf R'):A0 P f args res:=by
 refine ⟨h.1,fun M w vs hb hv=> ?_⟩
 refine (h.2 M w FO [] M w vs ((A7.begin hb).Im (r:=Bf) rfl trivial) hv).mono ?_
 rintro e w' ⟨v,M',rfl,h2,h3,h4⟩
 exact ⟨v,rfl,res.st _ _ _ _ _ (Ext.less h4.m) h2,h4.below⟩
theorem fH {sz:Nat} (ho:o.op= .call { callee:= .builtin .len,args:= #[x],argTypes:= #[t] }) (ht:P.underlying t=some (.slice e)) (hx:VL E x (is v)):
  KW P M0 w0 S j (SR.c (Ba T sz rows v)) o E (int ((rows.length:Nat):Int)):=by
 intro M w a rs he hI hj
 have h1:a.eval x=v:=hx.ev he DG
 have hj':rs[j]? =some (Ba T sz rows v):=hj
 have hrun:∃A c,v= .slice A rows.length c:=by
  rcases (hI.hold _ (List.mem_of_getElem? hj')).1 with ⟨rfl,A,hv⟩|⟨b,cap,spare,hv,_⟩
  · exact ⟨_,_,hv⟩
  · exact ⟨_,_,hv⟩
 obtain ⟨A,c,hv⟩:=hrun
 have:(execOp a.eval o).run P w= .ok (.value (.int .i64 ((rows.length:Nat):Int))) w:=by
  simp [execOp,ho,resolve,invoke,builtin,Builtin.len_,h1,hv,run_underlying ht,goInt]
 rw [this]
 exact ⟨rfl,Below.refl _ _⟩
end
end
section
variable {P:Program} {L:Lg P} {n:Fm} {fz:Nat} {E:Env} {M0:Av} {w0:World} {S:Nat→Prop} {rs:List At} {o:Oper}
def AD3 (b off m:Nat):Pr where
 h _ _ u:=∃o c,u= .slice (some ⟨b,o,none⟩) m c∧(0<m→o=off)
 st _M _w _M' _w' _v _ h:=h
instance AB5 (b off m:Nat):One (AD3 b off m):=⟨by rintro M w u ⟨o,c,rfl,_⟩;exact ⟨rfl,rfl⟩⟩
theorem NV {I:C1} {y:Operand} {sz sz1 sz2:Nat} (ho:o.op= .call { callee:= .builtin .append,args:= #[x,y],argTypes:= #[t,t] }) (ht:P.underlying t=some (.slice e)) (hz:A9 P e=some sz) (hx:VL E x (full sz1 [])) (hy:VL E y (slice sz2 [])):Ac P I o E (full sz []):=
 Ac.same fun M w a he _=>by
  obtain ⟨_,A,h1⟩:=hx.ev he DG
  obtain ⟨A',c',h2,_⟩:=hy.ev he DG
  simp only [List.length_nil] at h1 h2
  refine ⟨.slice A 0 0,?_,jH sz A M w⟩
  have hrun:=G0 (P:=P) (ty:=o.type) (A:=A) (A':=A') (n:=0) (c:=0) (c':=c') ht hz (Nat.le_refl _) w
  simp [execOp,ho,resolve,invoke,builtin,h1,h2,hrun]
end
section
variable {P:Program} {L:Lg P} {n:Fm} {fz:Nat} {E:Env} {M0:Av} {w0:World} {S:Nat→Prop} {rs:List At} {o:Oper}
end
section
variable {P:Program} {L:Lg P} {n:Fm} {fz:Nat} {E:Env} {M0:Av} {w0:World} {S:Nat→Prop} {rs:List At}
theorem St.CA {sz:Nat} {new:Bool} (hi:rs[i]? =some (AF new b T ps)) (hj:rs[j]? =some (Ba e sz rows v)) (hij:j≠i) (hk:ps[k]? =some p) (hp:Pr.le p (is v)) (hl:∀r∈rows,r.length=sz) {w:World} (h:St n E (Hp M0 w0 S rs) a w):
  St n E (Hp M0 w0 S ((rs.set j Bf).set i (AF new b T (ps.set k (slice sz rows))))) a w:=by
 obtain ⟨M,h1,h2,h3,h4⟩:=h
 have h4:A7 M0 w0 S rs M w:=h4
 have hi':(rs.set j (Ba e sz rows v))[i]? =some (AF new b T ps):=by rw [List.getElem?_set_ne hij];exact hi
 obtain ⟨M',g1,g2,g3⟩:=h4.AAW hj hl
 have gi:(rs.set j Bf)[i]? =some (AF new b T ps):=by rw [List.getElem?_set_ne hij];exact hi
 refine ⟨M',h1,h2,fun s q hq=>q.st _ _ _ _ _ g1 (h3 s q hq),g2.Ce gi rfl rfl ?_⟩
 obtain ⟨c1,cs,c2,c3,c4⟩:=(g2.hold _ (List.mem_of_getElem? gi)).1
 exact ⟨c1,cs,c2,c3.set hk (fun u hu=>by rw [show u=v from hp _ _ _ hu];exact g3),c4⟩
theorem Tr.CA {Q:Exit→Act→World→Prop} {c:Code} (i j k:Nat) {sz:Nat} {new:Bool} (hi:rs[i]? =some (AF new b T ps)) (hj:rs[j]? =some (Ba e sz rows v)) (hij:j≠i) (hk:ps[k]? =some p) (hp:Pr.le p (is v)) (hl:∀r∈rows,r.length=sz) (kk:Tr L n E (Hp M0 w0 S ((rs.set j Bf).set i (AF new b T (ps.set k (slice sz rows))))) c Q):Tr L n E (Hp M0 w0 S rs) c Q:=Tr.conv (fun _ _ hs=>hs.CA hi hj hij hk hp hl) kk
end
theorem vh {β:Type} {f:β→List Pr} {l:List β} {q:Nat} {x:β} (h:l[k]? =some x) (hq:(f x).take q++qs++(f x).drop (q+m)=f x):(l.map f).set k ((f x).take q++qs++(f x).drop (q+m))=l.map f:=by
 rw [hq]
 refine List.ext_getElem? fun i=> ?_
 rw [List.getElem?_set]
 by_cases hi:k=i
 ·
  subst hi
  rw [if_pos rfl,List.getElem?_map,h]
  have:=BH h
  rw [if_pos (by rw [List.length_map];exact this)];rfl
 · rw [if_neg hi]
theorem oo {β:Type} {f:β→List Pr} {l:List β} {q:Nat} {x:β} (h:l[k]? =some x) (hq:(f x).take q++qs++(f x).drop (q+m)=f x):(l.map f).set ((k:Nat):Int).toNat ((f x).take q++qs++(f x).drop (q+m))=l.map f:=by
 rw [Int.toNat_natCast];exact vh h hq
end Cp
